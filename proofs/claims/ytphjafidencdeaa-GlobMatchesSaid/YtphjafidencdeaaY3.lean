/- The walk of the document's Match, way 3 of five at its head. -/
import Derived.Test.YtphjafidencdeaaY0
namespace Go.Proofs.Ytphjafidencdeaa
open Go.RowKit
set_option maxRecDepth 100000

set_option maxHeartbeats 8000000 in
theorem rmatch_w3 (p s : List UInt8) (dot b : Bool) (w : World) (D : List DPt) (hp : p.length ≤ 100000) (hs : s.length ≤ 100000) (hD : dparts p 0 = D) (hb2 : b = true ↔ Ma (D.map DPt.kd) s) (h : 0 < s.length) (hdot : dot = true) (q1 : decide ((0 : Int) < (s.length : Int)) = true) (b1 : (((s[0]).toNat : Int) == 46) = false) :
    Calls Try.prog 11 #[sv p, sv s, .bool dot] w fun e w' => e = .returned (.bool b) ∧ w.grownBy w' none := by
  have z1 := sz p
  have z2 := sz s
  have eg : ∀ args w, (callFunc 22 args).run Try.prog w = .ok (.enter 22 args) w := enters_of Try.func22 (by kernel_rfl) rfl
  have hpa := fun w' => rparts_any p w' (by omega)
  have hlen := dparts_len p _ 0 rfl
  rw [Nat.sub_zero] at hlen
  rw [hD] at hpa hlen
  subst hdot
  unfold sv at hpa ⊢
  have Hpa := hide hpa
  clear hpa hD
  have a1 := str_at' s 0 h
  have hsl : (0 : Int) < (s.length : Int) := by omega
  go_enter Try.func11, Try.ntmps11
  go_wp2_with fail
  refine (Hpa.out _).mono ?_
  rintro e w1 ⟨v, rfl, hA⟩
  obtain ⟨va, vcap, rfl, hvc, hvm⟩ := hA.own.form
  have HA := hide hA
  clear hA
  have hmk := fun W => run_row (s.length + 1) (by omega) W
  simp only [Int.natCast_add, Int.natCast_one] at hmk
  have hn0 : (0 : Int) < (s.length : Int) + 1 := by omega
  have Hb0 := hide (show TAt (w1.alloc (.cells (tcells (s.length + 1) noT) 4)) w1.heap.size (s.length + 1) noT from Blk.new w1 4 _)
  have c0 := TAt.cell Hb0.out (k := 0) (by omega)
  have z0 := Blk.frozen Hb0.out 0
  have l0 := Blk.lt Hb0.out
  go_wp2_with fail
  have HT0 := hide (show TAt (w1.alloc (.cells ((tcells (s.length + 1) noT).setIfInBounds 0 (.bool true)) 4)) w1.heap.size (s.length + 1) (fun j => if j = 0 then true else noT j) from by rw [tcells_set noT (by omega)]; exact Blk.new w1 4 _)
  have HA0 := hide (AppD.grown HA.out (only_alloc (only_refl w1 none) (.cells ((tcells (s.length + 1) noT).setIfInBounds 0 (.bool true)) 4)))
  have Hlo := hide HA.out.chg.size
  clear c0 z0 l0
  go_loopw [9, 10] (fun v9 v10 wr => ∃ (i g : Nat) (f : Nat → Bool), v9 = .slice (some ⟨g, 0, none⟩) (s.length + 1) (s.length + 1) ∧ v10 = .int .i64 i ∧ i ≤ D.length ∧ TAt wr g (s.length + 1) f ∧ (∀ k, k ≤ s.length → (f k = true ↔ Ma ((D.take i).map DPt.kd) (s.take k))) ∧ AppD w wr (.slice va D.length vcap) D) (fun _ v10 _ => D.length - (intOf v10).toNat)
  case atStart => exact ⟨0, w1.heap.size, _, rfl, rfl, Nat.zero_le _, HT0.out, row0 s, HA0.out⟩
  case round =>
    obtain ⟨i, g, f, rfl, rfl, hi, hT, hf, hA⟩ := hrel
    have HT := hide hT
    have Hf := hide hf
    have HA := hide hA
    clear hT hf hA HT0 HA0 Hb0
    by_cases hlt : i < D.length
    · have q0 : decide ((i : Int) < (D.length : Int)) = true := decide_eq_true (by omega)
      have hib : (0 : Int) ≤ i ∧ (i : Int) < (D.length : Int) := by omega
      obtain ⟨gD, off, cap', hva, hgD, hcell⟩ := HA.out.cell hlt
      injection hva with hva _ hcp
      subst hva hcp
      clear hcell hgD
      obtain ⟨x, hx⟩ : ∃ x, D[i] = x := ⟨_, rfl⟩
      have Htk := hide (show (D.take (i + 1)).map DPt.kd = (D.take i).map DPt.kd ++ [x.kd] by rw [List.take_succ_eq_append_getElem hlt, hx, List.map_append]; rfl)
      obtain ⟨g2, hg2⟩ : ∃ g2, wr.heap.size = g2 := ⟨_, rfl⟩
      have hb0 : TAt (wr.alloc (.cells (tcells (s.length + 1) noT) 4)) g2 (s.length + 1) noT := by rw [← hg2]; exact Blk.new wr 4 _
      have HH0 := hide hb0
      have HT0 := hide (show TAt (wr.alloc (.cells (tcells (s.length + 1) noT) 4)) g (s.length + 1) f from Blk.alloc HT.out _)
      have HA0 := hide (AppD.grown HA.out (only_alloc (only_refl wr none) (.cells (tcells (s.length + 1) noT) 4)))
      have hgg : g ≠ g2 := by have := Blk.lt HT.out; omega
      have hne : (Value.slice (some ⟨gD, off, none⟩) D.length vcap).ownBlock ≠ some g2 := fun e => by have := HA.out.own.lt e; omega
      have hg2w : w.heap.size ≤ g2 := by have := HA.out.chg.size; omega
      clear hb0
      go_wp2_with fail
      go_loopw [12] (fun vk wi => ∃ (k : Nat) (h : Nat → Bool), vk = .int .i64 k ∧ k ≤ s.length + 1 ∧ TAt wi g2 (s.length + 1) h ∧ TAt wi g (s.length + 1) f ∧ AppD w wi (.slice (some ⟨gD, off, none⟩) D.length vcap) D ∧ (∀ j, j < k → (h j = true ↔ Ma ((D.take (i + 1)).map DPt.kd) (s.take j)))) (fun vk _ => s.length + 1 - (intOf vk).toNat)
      case atStart => exact ⟨0, noT, rfl, Nat.zero_le _, HH0.out, HT0.out, HA0.out, fun j hj => absurd hj (Nat.not_lt_zero _)⟩
      case round =>
        obtain ⟨k, h, rfl, hk, hH, hT, hA, hin⟩ := hrel
        have HH := hide hH
        have HT := hide hT
        have HA := hide hA
        have Hin := hide hin
        clear hH hT hA hin HH0 HT0 HA0
        by_cases hks : k ≤ s.length
        · have q1 : decide ((k : Int) ≤ (s.length : Int)) = true := decide_eq_true (by omega)
          have q1' : decide (k ≤ s.length) = true := decide_eq_true (by omega)
          have hrg := AppD.range HA.out hlt rfl
          rw [hx] at hrg
          have m0 : wr.cell? ⟨gD, off + i * 259, none⟩ = some (.int .u8 x.k.toNat) := hrg 0 _ (by rw [Array.getElem?_toList]; exact x.c0)
          have Hrg := hide hrg
          clear hrg
          have hHk := TAt.cell HH.out (k := k) (by omega)
          have hHz := Blk.frozen HH.out k
          have hHl := Blk.lt HH.out
          have hTk := TAt.cell HT.out (k := k) (by omega)
          have hfk := Hf.out k hks
          have hkb : (0 : Int) ≤ k ∧ (k : Int) < (s.length : Int) + 1 := by omega
          by_cases h42 : x.k = 42
          · have q2 : ((x.k.toNat : Int) == 42) = true := by rw [h42]; rfl
            have Hkd := hide (show x.kd = none by unfold DPt.kd; rw [if_pos h42])
            clear h42
            cases hfb : f k with
            | true =>
              rw [hfb] at hTk
              have Hlaw := hide (show (true = true ↔ Ma ((D.take (i + 1)).map DPt.kd) (s.take k)) by rw [Htk.out, Hkd.out, table_star hks]; exact yes (.inl (hfk.1 hfb)))
              clear hfk hfb
              go_wp2_with fail
              go_roundw
              case rel =>
                refine ⟨k + 1, fun j => if j = k then true else h j, by go_num, by omega, TAt.set HH.out (by omega) _, Blk.far HT.out hgg _, AppD.far HA.out hne hg2w _, fun j hj => ?_⟩
                by_cases e : j = k
                · have hv : (if j = k then true else h j) = true := if_pos e
                  exact (show ((if j = k then true else h j) = true ↔ _) from by rw [hv, e]; exact Hlaw.out)
                · have hv : (if j = k then true else h j) = h j := if_neg e
                  exact (show ((if j = k then true else h j) = true ↔ _) from by rw [hv]; exact Hin.out j (by omega))
              case measure => first | (simp [intOf]; done) | (simp [intOf]; omega)
            | false =>
              rw [hfb] at hTk
              have Hno := hide (show ¬ Ma ((D.take i).map DPt.kd) (s.take k) from fun hh => by have := hfk.2 hh; rw [hfb] at this; cases this)
              clear hfk hfb
              by_cases hk0 : k = 0
              · subst hk0
                have Hlaw := hide (show (false = true ↔ Ma ((D.take (i + 1)).map DPt.kd) (s.take 0)) by rw [Htk.out, Hkd.out, table_star hks]; exact no (fun hh => hh.elim Hno.out (fun h => absurd h.1 (Nat.lt_irrefl _))))
                go_wp2_with fail
                go_roundw
                case rel =>
                  refine ⟨0 + 1, fun j => if j = 0 then false else h j, by go_num, by omega, TAt.set HH.out (by omega) _, Blk.far HT.out hgg _, AppD.far HA.out hne hg2w _, fun j hj => ?_⟩
                  by_cases e : j = 0
                  · have hv : (if j = 0 then false else h j) = false := if_pos e
                    exact (show ((if j = 0 then false else h j) = true ↔ _) from by rw [hv, e]; exact Hlaw.out)
                  · have hv : (if j = 0 then false else h j) = h j := if_neg e
                    exact (show ((if j = 0 then false else h j) = true ↔ _) from by rw [hv]; exact Hin.out j (by omega))
                case measure => first | (simp [intOf]; done) | (simp [intOf]; omega)
              · obtain ⟨m, rfl⟩ : ∃ m, k = m + 1 := ⟨k - 1, by omega⟩
                have hHm := TAt.cell HH.out (k := m) (by omega)
                have hmb : (0 : Int) ≤ m ∧ (m : Int) < (s.length : Int) + 1 := by omega
                have q3 : (0 : Int) < (m : Int) + 1 := by omega
                have him := Hin.out m (by omega)
                obtain ⟨hb, hhb⟩ : ∃ hb, h m = hb := ⟨_, rfl⟩
                rw [hhb] at hHm him
                have Hlaw := hide (show (hb = true ↔ Ma ((D.take (i + 1)).map DPt.kd) (s.take (m + 1))) by
                  rw [him, Htk.out, Hkd.out, table_star hks]
                  exact ⟨fun hh => .inr ⟨Nat.succ_pos _, hh⟩, fun hh => hh.elim (fun h => (Hno.out h).elim) (fun h => h.2)⟩)
                clear him hhb
                go_wp2_with fail
                go_roundw
                case rel =>
                  refine ⟨m + 1 + 1, fun j => if j = m + 1 then hb else h j, by go_num, by omega, TAt.set HH.out (by omega) _, Blk.far HT.out hgg _, AppD.far HA.out hne hg2w _, fun j hj => ?_⟩
                  by_cases e : j = m + 1
                  · have hv : (if j = m + 1 then hb else h j) = hb := if_pos e
                    exact (show ((if j = m + 1 then hb else h j) = true ↔ _) from by rw [hv, e]; exact Hlaw.out)
                  · have hv : (if j = m + 1 then hb else h j) = h j := if_neg e
                    exact (show ((if j = m + 1 then hb else h j) = true ↔ _) from by rw [hv]; exact Hin.out j (by omega))
                case measure => first | (simp [intOf]; done) | (simp [intOf]; omega)
          · have q2 : ((x.k.toNat : Int) == 42) = false := byte_ne h42
            have Hkd := hide (show x.kd = some x.one by unfold DPt.kd; rw [if_neg h42])
            clear h42 hfk
            by_cases hk0 : k = 0
            · subst hk0
              have Hlaw := hide (show (false = true ↔ Ma ((D.take (i + 1)).map DPt.kd) (s.take 0)) by rw [Htk.out, Hkd.out, table_one hks]; exact no (fun hh => absurd hh.1 (Nat.lt_irrefl _)))
              go_wp2_with fail
              refine wp_region_qtail 23 (by kernel_rfl) (by kernel_rfl) ?_
              simp only [List.take_succ_cons, List.take_zero, List.drop_succ_cons, List.drop_zero]
              repeat (go_big_quiet_step (fail))
              refine wpQuiet_nil ?_
              rintro _ ⟨nq, rfl⟩
              have HHd := hide (Blk.drewN HH.out nq)
              have HTd := hide (Blk.drewN HT.out nq)
              have HAd := hide (AppD.drewN HA.out nq)
              go_wp2
              go_roundw
              case rel =>
                refine ⟨0 + 1, fun j => if j = 0 then false else h j, by go_num, by omega, TAt.set HHd.out (by omega) _, Blk.far HTd.out hgg _, AppD.far HAd.out hne hg2w _, fun j hj => ?_⟩
                by_cases e : j = 0
                · have hv : (if j = 0 then false else h j) = false := if_pos e
                  exact (show ((if j = 0 then false else h j) = true ↔ _) from by rw [hv, e]; exact Hlaw.out)
                · have hv : (if j = 0 then false else h j) = h j := if_neg e
                  exact (show ((if j = 0 then false else h j) = true ↔ _) from by rw [hv]; exact Hin.out j (by omega))
              case measure => first | (simp [intOf]; done) | (simp [intOf]; omega)
            · obtain ⟨m, rfl⟩ : ∃ m, k = m + 1 := ⟨k - 1, by omega⟩
              have hTm := TAt.cell HT.out (k := m) (by omega)
              have hmb : (0 : Int) ≤ m ∧ (m : Int) < (s.length : Int) + 1 := by omega
              have hms : (0 : Int) ≤ m ∧ (m : Int) < (s.length : Int) := by omega
              have q3 : (0 : Int) < (m : Int) + 1 := by omega
              have hfm := Hf.out m (by omega)
              have hat := str_at' s m (by omega)
              obtain ⟨c, hc⟩ : ∃ c, s[m]'(by omega) = c := ⟨_, rfl⟩
              rw [hc] at hat
              have hgd : s.getD m 0 = c := by rw [List.getD_eq_getElem?_getD, List.getElem?_eq_getElem (by omega), ← hc]; rfl
              cases hft : f m with
              | false =>
                rw [hft] at hTm
                have Hlaw := hide (show (false = true ↔ Ma ((D.take (i + 1)).map DPt.kd) (s.take (m + 1))) by
                  rw [Htk.out, Hkd.out, table_one hks]
                  exact no (fun hh => by have := hfm.2 hh.2.1; rw [hft] at this; cases this))
                clear hfm hft
                go_wp2_with fail
                refine wp_region_qtail 23 (by kernel_rfl) (by kernel_rfl) ?_
                simp only [List.take_succ_cons, List.take_zero, List.drop_succ_cons, List.drop_zero]
                repeat (go_big_quiet_step (fail))
                refine wpQuiet_nil ?_
                rintro _ ⟨nq, rfl⟩
                have HHd := hide (Blk.drewN HH.out nq)
                have HTd := hide (Blk.drewN HT.out nq)
                have HAd := hide (AppD.drewN HA.out nq)
                go_wp2
                go_roundw
                case rel =>
                  refine ⟨m + 1 + 1, fun j => if j = m + 1 then false else h j, by go_num, by omega, TAt.set HHd.out (by omega) _, Blk.far HTd.out hgg _, AppD.far HAd.out hne hg2w _, fun j hj => ?_⟩
                  by_cases e : j = m + 1
                  · have hv : (if j = m + 1 then false else h j) = false := if_pos e
                    exact (show ((if j = m + 1 then false else h j) = true ↔ _) from by rw [hv, e]; exact Hlaw.out)
                  · have hv : (if j = m + 1 then false else h j) = h j := if_neg e
                    exact (show ((if j = m + 1 then false else h j) = true ↔ _) from by rw [hv]; exact Hin.out j (by omega))
                case measure => first | (simp [intOf]; done) | (simp [intOf]; omega)
              | true =>
                have hone := fun w' => rone_any x c w'
                obtain ⟨ob, hob⟩ : ∃ ob, x.one c = ob := ⟨_, rfl⟩
                rw [hob] at hone
                have Hone := hide hone
                have Hlaw := hide (show (ob = true ↔ Ma ((D.take (i + 1)).map DPt.kd) (s.take (m + 1))) by
                  rw [Htk.out, Hkd.out, table_one hks, show m + 1 - 1 = m from rfl, hgd, hob]
                  exact ⟨fun hh => ⟨Nat.succ_pos _, hfm.1 hft, hh⟩, fun hh => hh.2.2⟩)
                have q0m : (0 : Int) ≤ (m : Int) + 1 := by omega
                have hwm : IntKind.i64.wrap ((m : Nat) : Int) = (m : Int) := by simp [IntKind.wrap, IntKind.bits, IntKind.signed]; omega
                clear hone hfm hob
                go_wp2_with fail
                refine wp_region_perm [0, 1, 2, 3, 4, 5, 6, 7, 8, 9, 10, 11, 12, 13, 14, 15, 16, 17, 18, 19] [20, 21, 22, 23] (by kernel_rfl) (by kernel_rfl) (fun W => W.cell? ⟨g, m, none⟩ = some (.bool true) ∧ W.rangeAt gD (off + i * 259) x.cells.toList ∧ W.cell? ⟨g2, m + 1, none⟩ = some (.bool (h (m + 1))) ∧ W.frozen? ⟨g2, m + 1, none⟩ = false) ⟨HT.out.cell_t (by omega) hft, Hrg.out, HH.out.cell (by omega), Blk.frozen HH.out _⟩ ?_
                simp only [pick, List.getElem?_cons_zero, List.getElem?_cons_succ]
                iterate 15
                  refine wpTake_cons ?_ (by rfl) ?_ ?_
                  rotate_left
                  · (rintro W9 ⟨s1, s2, s3, s4⟩; go_simp; try with_reducible rfl)
                  simp only [Act.put, List.setIfInBounds_toArray, List.set_cons_zero, List.set_cons_succ]
                refine wpTake_y _ (yieldsIf_load_mid (by rfl) 45 _ rfl gD (off + i * 259) rfl x.cells.toList _ (fun W9 hS9 => hS9.2.1) Try.underlying45 rfl (by rw [Array.length_toList, DPt.size]; exact info45)) ?_
                simp only [Act.put, List.setIfInBounds_toArray, List.set_cons_zero, List.set_cons_succ, Array.toArray_toList]
                iterate 4
                  refine wpTake_cons ?_ (by rfl) ?_ ?_
                  rotate_left
                  · (rintro W9 ⟨s1, s2, s3, s4⟩; go_simp; try with_reducible rfl)
                  simp only [Act.put, List.setIfInBounds_toArray, List.set_cons_zero, List.set_cons_succ]
                refine wpTake_nil ?_
                refine wpForce_cons fun K hK => ?_
                refine step_call (by rfl) (by simp [execOp, resolve, invoke, go_sem, eg]) (Hone.out _) ?_
                intro w9 hg9
                have HT9 := hide (Blk.grown HT.out.drew hg9 (by simp))
                have HH9 := hide (Blk.grown HH.out.drew hg9 (by simp))
                have HA9 := hide (AppD.grown (AppD.drew HA.out) hg9)
                refine hK.out _ _ ⟨TAt.cell_t HT9.out (by omega) hft, AppD.range_x HA9.out hlt rfl hx, TAt.cell HH9.out (by omega), Blk.frozen HH9.out _⟩ ?_
                simp only [Act.put, List.setIfInBounds_toArray, List.set_cons_zero, List.set_cons_succ]
                refine wpForce_cons fun K2 hK2 => ?_
                refine step_val (.bool ob) _ rfl (by go_simp; try with_reducible rfl) ?_
                refine hK2.out _ _ ⟨TAt.cell_t HT9.out (by omega) hft, AppD.range_x HA9.out hlt rfl hx, TAt.cell HH9.out (by omega), Blk.frozen HH9.out _⟩ ?_
                simp only [Act.put, List.setIfInBounds_toArray, List.set_cons_zero, List.set_cons_succ]
                refine wpForce_cons fun K3 hK3 => ?_
                refine step_val (.pointer (some ⟨g2, m + 1, none⟩)) _ rfl (by go_simp; try with_reducible rfl) ?_
                refine hK3.out _ _ ⟨TAt.cell_t HT9.out (by omega) hft, AppD.range_x HA9.out hlt rfl hx, TAt.cell HH9.out (by omega), Blk.frozen HH9.out _⟩ ?_
                simp only [Act.put, List.setIfInBounds_toArray, List.set_cons_zero, List.set_cons_succ]
                refine wpForce_one ?_
                have c9 := TAt.cell HH9.out (k := m + 1) (by omega)
                have z9 := Blk.frozen HH9.out (m + 1)
                have l9 := Blk.lt HH9.out
                go_wp2
                refine NoPanic.normal ?_
                go_wp2
                go_roundw
                case rel =>
                  refine ⟨m + 1 + 1, fun j => if j = m + 1 then ob else h j, by go_num, by omega, TAt.set HH9.out (by omega) _, Blk.far HT9.out hgg _, AppD.far HA9.out hne hg2w _, fun j hj => ?_⟩
                  by_cases e : j = m + 1
                  · have hv : (if j = m + 1 then ob else h j) = ob := if_pos e
                    exact (show ((if j = m + 1 then ob else h j) = true ↔ _) from by rw [hv, e]; exact Hlaw.out)
                  · have hv : (if j = m + 1 then ob else h j) = h j := if_neg e
                    exact (show ((if j = m + 1 then ob else h j) = true ↔ _) from by rw [hv]; exact Hin.out j (by omega))
                case measure => first | (simp [intOf]; done) | (simp [intOf]; omega)
        · have q1 : decide ((k : Int) ≤ (s.length : Int)) = false := decide_eq_false (by omega)
          have q1' : decide (k ≤ s.length) = false := decide_eq_false (by omega)
          go_wp2_with fail
          go_roundw
          case rel => exact ⟨i + 1, g2, h, rfl, by go_num, by omega, HH.out, fun j hj => Hin.out j (by omega), HA.out⟩
          case measure => first | (simp [intOf]; done) | (simp [intOf]; omega)
    · have q0 : decide ((i : Int) < (D.length : Int)) = false := decide_eq_false (by omega)
      have hT := TAt.cell HT.out (k := s.length) (by omega)
      have hsb : (0 : Int) ≤ s.length ∧ (s.length : Int) < (s.length : Int) + 1 := by omega
      have hres : b = f s.length := by
        rw [Bool.eq_iff_iff, hb2, Hf.out s.length (Nat.le_refl _), List.take_of_length_le (by omega), List.take_of_length_le (Nat.le_refl _)]
      have Hres := hide hres
      clear hres hb2
      go_wp2_with fail
      go_ret
      exact ⟨by rw [Hres.out]; rfl, HA.out.chg.grown (fun _ _ h => h)⟩

end Go.Proofs.Ytphjafidencdeaa
