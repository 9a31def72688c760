/- From, the document's. -/
import Derived.Test.YtdcfpklohleoiaaDoorZB
namespace Go.Proofs.YtdcfpklohleoiaaDoor
open Go.RowKit
set_option maxRecDepth 100000

theorem cut_no {s : List UInt8} (h : ∀ i (hi : i < s.length), s[i] ≠ 61) : (cutF s).2.2 = false := by
  have : Lib.indexByte s 61 = -1 := by
    rcases idx_cut 61 s with ⟨_, h1⟩ | ⟨j, h1, h2, _⟩
    · exact h1
    · obtain ⟨h3, _⟩ := Lib.indexByte_some h1
      rw [List.getElem?_eq_getElem h2] at h3
      exact absurd (Option.some.inj h3) (h j h2)
  unfold cutF
  rw [this]
  rfl
theorem cut_at {s : List UInt8} {j : Nat} (hj : j < s.length) (h61 : s[j] = 61) (h : ∀ i (hi : i < s.length), i < j → s[i] ≠ 61) : cutF s = (s.take j, s.drop (j + 1), true) := by
  have : Lib.indexByte s 61 = j := by
    rcases idx_cut 61 s with ⟨h0, _⟩ | ⟨k, h1, h2, _⟩
    · rw [List.count_eq_zero] at h0
      exact absurd (h61 ▸ List.getElem_mem hj) h0
    · obtain ⟨h3, h4⟩ := Lib.indexByte_some h1
      rw [List.getElem?_eq_getElem h2] at h3
      have h5 : ¬ k < j := fun e => h k h2 e (Option.some.inj h3)
      have h6 : ¬ j < k := fun e => by
        have := h4 j e
        rw [List.getElem?_eq_getElem hj, h61] at this
        exact this rfl
      rw [h1]
      omega
  unfold cutF
  rw [this]
section
variable {w w3 : World} {u1 v : Value} {D vs : List V} {wb b : Nat} {p q r : Value}
theorem wz0 (ho : Own w3 35 4 u1 D.length (vcs D) 0) (hE : EnvAt w3 wb v vs) (hg : w.grownBy w3 none) : CutR w (w3.alloc (.cells #[u1, .slice none 0 0, .string ⟨#[]⟩] 27)) w3.heap.size u1 D wb v vs :=
  ⟨⟨Blk.new w3 27 _, ho.alloc _⟩, hE.alloc _, only_alloc hg _⟩
theorem wz1 (hb : Blk w3 b 27 #[p, q, r]) (ho : Own w3 35 4 u1 D.length (vcs D) 0) (hE : EnvAt w3 wb v vs) (hne : wb ≠ b) (hg : w.grownBy w3 none) (hs : w.heap.size ≤ b) :
    CutR w (((w3.setCell ⟨b, 0, none⟩ u1).setCell ⟨b, 1, none⟩ (.slice none 0 0)).setCell ⟨b, 2, none⟩ (.string ⟨#[]⟩)) b u1 D wb v vs :=
  ⟨EnvAt.put hb ho, hE.far3 hb hne u1, gr27 hg hs _ _ _⟩
end
/-- The variables of the document's From. -/
structure FrAt (w wc : World) (v : Value) (vs : List V) : Prop where
  r : Blk wc w.heap.size 27 #[.slice none 0 0, .slice none 0 0, .string ⟨#[]⟩]
  e : EnvAt wc (w.heap.size + 1) v vs
  g : w.grownBy wc none
theorem FrAt.put {w a b c : World} {v v' : Value} {vs vs' : List V} (h : FrAt w a v vs) (h1 : a.grownBy b none) (h2 : b.grownBy c none) (ho : Own c 35 4 v' vs'.length (vcs vs') 0) :
    FrAt w (((c.setCell ⟨w.heap.size + 1, 0, none⟩ v').setCell ⟨w.heap.size + 1, 1, none⟩ (.slice none 0 0)).setCell ⟨w.heap.size + 1, 2, none⟩ (.string ⟨#[]⟩)) v' vs' := by
  have hb := Blk.grown (Blk.grown h.e.blk h1 (by simp)) h2 (by simp)
  have hr := Blk.grown (Blk.grown h.r h1 (by simp)) h2 (by simp)
  have hne : w.heap.size ≠ w.heap.size + 1 := by omega
  exact ⟨Blk.far (p := ⟨w.heap.size + 1, 2, none⟩) (Blk.far (p := ⟨w.heap.size + 1, 1, none⟩) (Blk.far (p := ⟨w.heap.size + 1, 0, none⟩) hr hne _) hne _) hne _, EnvAt.put hb ho, gr27 (none_trans (none_trans h.g h1) h2) (by omega) _ _ _⟩
theorem FrAt.grown {w a b : World} {v : Value} {vs : List V} (h : FrAt w a v vs) (hg : a.grownBy b none) : FrAt w b v vs := ⟨Blk.grown h.r hg (by simp), h.e.grown hg, none_trans h.g hg⟩

set_option maxHeartbeats 8000000 in
theorem rfrom_any (ss : List (List UInt8)) (a : Option Addr) (cap : Nat) (w : World) (hss : StrL w a ss) (hl : ss.length ≤ 1000000) (hlen : ∀ s ∈ ss, s.length ≤ 9223372036854775807) :
    Calls Tryd.prog 15 #[.slice a ss.length cap] w (EnvIs w (fromF ss)) := by
  have Hs := hide hss
  have Hlen := hide hlen
  have Hset := hide (fun vs m val v w' hw ho hm hv => rset_any vs m val v w' hw ho hm hv)
  have Hmark := hide (fun vs m v w' hw ho hm => rmark_any vs m true false v w' hw ho hm)
  unfold EnvPost at Hset Hmark
  unfold sv envV at Hset Hmark
  clear hss hlen
  have HF0 := hide (⟨(Blk.new w 27 _).alloc _, ⟨Blk.new1 w _ 27 _, Own.nil _ _ _ _⟩, only_alloc (only_alloc (only_refl w none) _) _⟩ : FrAt w ((w.alloc (.cells #[.slice none 0 0, .slice none 0 0, .string ⟨#[]⟩] 27)).alloc (.cells #[.slice none 0 0, .slice none 0 0, .string ⟨#[]⟩] 27)) (.slice none 0 0) [])
  go_enter Tryd.func15, Tryd.ntmps15
  go_wp2_with fail
  go_loopw [4] (fun v4 wr => ∃ (k : Nat) (v : Value), v4 = .int .i64 k ∧ k ≤ ss.length ∧ FrAt w wr v (fromF (ss.take k))) (fun v4 _ => ss.length - (intOf v4).toNat)
  case atStart => exact ⟨0, _, rfl, Nat.zero_le _, HF0.out⟩
  case round =>
    obtain ⟨k, v, rfl, hk, hF⟩ := hrel
    have hwf := wf_from (ss.take k)
    obtain ⟨vs, hvs⟩ : ∃ vs, fromF (ss.take k) = vs := ⟨_, rfl⟩
    rw [hvs] at hF hwf
    have HV := hide hvs
    have HF := hide hF
    have HWF := hide hwf
    obtain ⟨av, cv, rfl, _, _⟩ := hF.e.own.form
    clear hvs hF hwf
    obtain ⟨d0, d1, d2⟩ := res27 HF.out.e.blk
    have lb := Blk.lt HF.out.e.blk
    by_cases hlt : k < ss.length
    · have q0 : decide ((k : Int) < (ss.length : Int)) = true := decide_eq_true (by omega)
      have hib : (0 : Int) ≤ k ∧ (k : Int) < (ss.length : Int) := by omega
      obtain ⟨b, off, rfl, hb, hc⟩ := Hs.out k hlt
      have c0 := old_cell HF.out.g hb hc
      have hbs : b < wr.heap.size := Nat.lt_of_lt_of_le hb HF.out.g.size
      have hsl := Hlen.out ss[k] (List.getElem_mem hlt)
      have hstep : fromF (ss.take (k + 1)) = stepF vs ss[k] := by rw [List.take_succ_eq_append_getElem hlt, from_snoc, HV.out]
      obtain ⟨s, hs⟩ : ∃ s, ss[k] = s := ⟨_, rfl⟩
      rw [hs] at c0 hsl hstep
      unfold sv at c0
      have HST := hide hstep
      rw [hs] at hc
      have HC0 := hide hc
      clear hc hs hstep
      have h1 := sz s
      go_wp2_with fail
      go_loop [5] (fun v5 => ∃ j : Nat, v5 = .int .i64 j ∧ j ≤ s.length ∧ ∀ i (hi : i < s.length), i < j → s[i] ≠ 61) (fun v5 => s.length - (intOf v5).toNat)
      case atStart => exact ⟨0, rfl, Nat.zero_le _, fun i _ h => absurd h (by omega)⟩
      case round =>
        obtain ⟨j, rfl, hj, hno⟩ := hrel
        have HNO := hide hno
        clear hno
        by_cases hjl : j < s.length
        · have q1 : decide ((j : Int) < (s.length : Int)) = true := decide_eq_true (by omega)
          have hjb : (0 : Int) ≤ j ∧ (j : Int) < (s.length : Int) := by omega
          have hat := str_at' s j hjl
          by_cases h61 : s[j] = 61
          · have HCF := hide (cut_at hjl h61 HNO.out)
            rw [h61] at hat
            have q2 : ((s.length : Int) == (j : Int)) = false := beq_eq_false_iff_ne.2 (by omega)
            have q3 : ((j : Int) == (s.length : Int)) = false := beq_eq_false_iff_ne.2 (by omega)
            clear h61
            have he1 : (ByteArray.mk s.toArray).extract 0 j = ⟨(s.take j).toArray⟩ := ext_take s j
            have he2 : (ByteArray.mk s.toArray).extract (j + 1) s.length = ⟨(s.drop (j + 1)).toArray⟩ := ext_drop s (j + 1) _ rfl
            have hml : (s.take j).length ≤ 9223372036854775807 := by rw [List.length_take]; omega
            have hvl : (s.drop (j + 1)).length ≤ 9223372036854775807 := by rw [List.length_drop]; omega
            obtain ⟨nm, hnm⟩ : ∃ nm, s.take j = nm := ⟨_, rfl⟩
            obtain ⟨val, hval⟩ : ∃ val, s.drop (j + 1) = val := ⟨_, rfl⟩
            rw [hnm] at he1 hml HCF
            rw [hval] at he2 hvl HCF
            clear hnm hval
            have HSL := hide (HST.out.trans (by unfold stepF; rw [HCF.out]; simp : _ = if (setF vs nm val).2 = 0 then (markF (setF vs nm val).1 nm true false).1 else vs))
            have Hset := hide (fun W (hW : wr.grownBy W none) => Hset.out vs nm val (.slice av vs.length cv) W HWF.out (HF.out.e.own.none_ hW) hml hvl)
            have HWS := hide (wf_set HWF.out nm val)
            obtain ⟨⟨R, code⟩, hR⟩ : ∃ R, setF vs nm val = R := ⟨_, rfl⟩
            rw [hR] at Hset HSL HWS
            simp only [] at Hset HSL HWS
            clear hR
            go_wp2_with fail
            go_cut [6, 7] (fun v6 v7 wc => ∃ (bx : Nat) (vx : Value), v6 = .pointer (some ⟨bx, 0, none⟩) ∧ v7 = .int .i64 code ∧ wr.heap.size ≤ bx ∧ CutR wr wc bx vx R (w.heap.size + 1) (.slice av vs.length cv) vs)
            case first =>
              have hw1 : IntKind.i64.wrap ((j : Int) + 1) = (j : Int) + 1 := IntWalk.i64_in _ (by omega)
              have hw2 : ((j : Int) + 1).toNat = j + 1 := by omega
              have hw3 : (0 : Int) ≤ (j : Int) + 1 := by omega
              have hw4 : (j : Int) + 1 ≤ (s.length : Int) := by omega
              have Hk : Hid (∀ W : World, wr.grownBy W none → (W.cell? ⟨w.heap.size + 1, 0, none⟩ = some (.slice av vs.length cv) ∧ W.cell? ⟨w.heap.size + 1, 1, none⟩ = some (.slice none 0 0) ∧ W.cell? ⟨w.heap.size + 1, 2, none⟩ = some (.string ⟨#[]⟩) ∧ W.cell? ⟨b, off + k, none⟩ = some (.string ⟨s.toArray⟩))) :=
                hide (fun W hg => ⟨old_cell hg lb d0, old_cell hg lb d1, old_cell hg lb d2, old_cell hg hbs c0⟩)
              go_region_held3 (fun W => W.cell? ⟨w.heap.size + 1, 0, none⟩ = some (.slice av vs.length cv) ∧ W.cell? ⟨w.heap.size + 1, 1, none⟩ = some (.slice none 0 0) ∧ W.cell? ⟨w.heap.size + 1, 2, none⟩ = some (.string ⟨#[]⟩) ∧ W.cell? ⟨b, off + k, none⟩ = some (.string ⟨s.toArray⟩))
                (first | go_keep | exact Hk.out _ (by repeat' (first | (with_reducible exact only_refl _ _) | (with_reducible refine none_setCell ?_ ?_ _) | (with_reducible refine none_trans ?_ hg) | (with_reducible refine only_drew ?_) | (with_reducible refine only_alloc ?_ _) | omega | (simp; done) | (simp; omega))))
                ((go_at_call 27; refine (Hset.out _ (by repeat' (first | (with_reducible exact only_refl _ _) | (with_reducible refine only_drew ?_) | (with_reducible refine only_alloc ?_ _)))).mono ?_; rintro e w3 ⟨u1, rfl, ho1, hg⟩; (obtain ⟨b1, k1, rfl, _, _⟩ := ho1.form); (have HG3 := hide (none_trans (show wr.grownBy _ none by repeat' (first | (with_reducible exact only_refl _ _) | (with_reducible refine only_drew ?_) | (with_reducible refine only_alloc ?_ _))) hg)); (have HO1 := hide ho1); (first | (have hz := ah1 (W0 := wr) (w3 := w3) wr.heap.size rfl (by exact hg); obtain ⟨HBx, ⟨x0, x1, x2⟩, ⟨zx0, zx1, zx2⟩, lx⟩ := hz) | (have hz := ah1 (W0 := wr.drew) (w3 := w3) wr.heap.size rfl (by exact hg); obtain ⟨HBx, ⟨x0, x1, x2⟩, ⟨zx0, zx1, zx2⟩, lx⟩ := hz) | (have hz := ah1 (W0 := wr.drew.drew) (w3 := w3) wr.heap.size rfl (by exact hg); obtain ⟨HBx, ⟨x0, x1, x2⟩, ⟨zx0, zx1, zx2⟩, lx⟩ := hz) | skip)))
              all_goals try go_wp2_with fail
              all_goals go_meet
              all_goals have HE3 := hide (HF.out.e.grown HG3.out)
              all_goals (case' rel => skip)
              · refine ⟨w3.heap.size, .slice b1 R.length k1, rfl, rfl, HG3.out.size, ?_⟩
                exact wz0 HO1.out HE3.out HG3.out
              · refine ⟨wr.heap.size, .slice b1 R.length k1, rfl, rfl, Nat.le_refl _, ?_⟩
                exact wz1 HBx.out HO1.out HE3.out (by omega) HG3.out (Nat.le_refl _)
            case rest =>
              obtain ⟨bx, vx, rfl, rfl, hbx, hX, hE, hG⟩ := hcut
              have lw0 := Blk.lt HF.out.e.blk
              have hn1 : bx ≠ w.heap.size + 1 := by omega
              have hn2 : b ≠ w.heap.size + 1 := by omega
              have hn3 : w.heap.size + 1 ≠ bx := by omega
              have hn4 : w.heap.size + 1 ≠ b := by omega
              have HX := hide hX
              have HE := hide hE
              have HG := hide hG
              obtain ⟨ax, cx, rfl, _, _⟩ := hX.own.form
              clear hX hE hG d0 d1 d2 lb c0 hbs Hset
              have c0 := old_cell (none_trans HF.out.g HG.out) hb HC0.out
              unfold sv at c0
              have hbs : b < wc.heap.size := Nat.lt_of_lt_of_le hb (none_trans HF.out.g HG.out).size
              obtain ⟨d0, d1, d2⟩ := res27 HX.out.blk
              have lb := Blk.lt HX.out.blk
              have lbe := Blk.lt HE.out.blk
              by_cases hc0 : code = 0
              · subst hc0
                have HSM := hide (show fromF (ss.take (k + 1)) = (markF R nm true false).1 from HSL.out.trans (by simp))
                have Hmark := hide (fun W (hW : wc.grownBy W none) => Hmark.out R nm (.slice ax R.length cx) W HWS.out (HX.out.own.none_ hW) hml)
                obtain ⟨M, hM⟩ : ∃ M, markF R nm true false = M := ⟨_, rfl⟩
                rw [hM] at Hmark HSM
                clear hM
                obtain ⟨R2, code2⟩ := M
                simp only [] at Hmark HSM
                go_upto_region 11 with (fail)
                have Hk : Hid (∀ W : World, wc.grownBy W none → (W.cell? ⟨bx, 0, none⟩ = some (.slice ax R.length cx) ∧ W.cell? ⟨bx, 1, none⟩ = some (.slice none 0 0) ∧ W.cell? ⟨bx, 2, none⟩ = some (.string ⟨#[]⟩) ∧ W.cell? ⟨b, off + k, none⟩ = some (.string ⟨s.toArray⟩))) :=
                  hide (fun W hg => ⟨old_cell hg lb d0, old_cell hg lb d1, old_cell hg lb d2, old_cell hg hbs c0⟩)
                go_region_held3 (fun W => W.cell? ⟨bx, 0, none⟩ = some (.slice ax R.length cx) ∧ W.cell? ⟨bx, 1, none⟩ = some (.slice none 0 0) ∧ W.cell? ⟨bx, 2, none⟩ = some (.string ⟨#[]⟩) ∧ W.cell? ⟨b, off + k, none⟩ = some (.string ⟨s.toArray⟩))
                  (first | go_keep | exact Hk.out _ (by repeat' (first | (with_reducible exact only_refl _ _) | (with_reducible refine none_setCell ?_ ?_ _) | (with_reducible refine none_trans ?_ hg) | (with_reducible refine only_drew ?_) | (with_reducible refine only_alloc ?_ _) | omega | (simp; done) | (simp; omega))))
                  ((go_at_call 29; refine (Hmark.out _ (by repeat' (first | (with_reducible exact only_refl _ _) | (with_reducible refine only_drew ?_) | (with_reducible refine only_alloc ?_ _)))).mono ?_; rintro e w3 ⟨u1, rfl, ho1, hg⟩; (obtain ⟨b1, k1, rfl, _, _⟩ := ho1.form); (have HG3 := hide (none_trans (show wc.grownBy _ none by repeat' (first | (with_reducible exact only_refl _ _) | (with_reducible refine only_drew ?_) | (with_reducible refine only_alloc ?_ _))) hg)); (have HO1 := hide ho1); (obtain ⟨s0, s1, s2, s3⟩ := Hk.out _ HG3.out); (have HE3 := hide (HE.out.grown HG3.out)); (obtain ⟨e0, e1, e2⟩ := res27 HE3.out.blk); (have zE0 := Blk.frozen HE3.out.blk 0); (have zE1 := Blk.frozen HE3.out.blk 1); (have zE2 := Blk.frozen HE3.out.blk 2); (have lE := Blk.lt HE3.out.blk)))
                all_goals try go_wp2_with fail
                all_goals go_roundw
                · refine ⟨k + 1, .slice b1 R2.length k1, by go_num, by omega, ?_⟩
                  rw [HSM.out]
                  exact HF.out.put HG.out HG3.out HO1.out
                all_goals (simp [intOf]; omega)
              · have q9 : (code == 0) = false := beq_eq_false_iff_ne.2 hc0
                have HSL := hide (show fromF (ss.take (k + 1)) = vs from HSL.out.trans (by simp [hc0]))
                clear hc0
                go_wp2_with fail
                go_roundw
                case rel => exact ⟨k + 1, _, by go_num, by omega, by rw [HSL.out]; exact HF.out.grown HG.out⟩
                case measure => simp [intOf]; omega
          · have hb61 := byte_ne (d := 61) h61
            have q4 : (((s[j]).toNat : Int) != 61) = true := by simpa using hb61
            have HN1 := hide (fun i (hi : i < s.length) (h : i < j + 1) => (if e : i = j then (by subst e; exact h61) else HNO.out i hi (by omega) : s[i] ≠ 61))
            obtain ⟨c, hc⟩ : ∃ c, s[j] = c := ⟨_, rfl⟩
            rw [hc] at hat q4
            clear hc h61 hb61
            go_wp2_with fail
            go_round
            case rel => exact ⟨j + 1, by go_num, by omega, HN1.out⟩
            case measure => simp [intOf]; omega
        · obtain rfl : j = s.length := by omega
          have q1 : decide ((s.length : Int) < (s.length : Int)) = false := decide_eq_false (by omega)
          have q3 : ((s.length : Int) == (s.length : Int)) = true := by simp
          have HSL := hide (HST.out.trans (by unfold stepF; rw [cut_no (fun i hi => HNO.out i hi hi)]; rfl : _ = vs))
          go_wp2_with fail
          go_roundw
          case rel => exact ⟨k + 1, _, by go_num, by omega, by rw [HSL.out]; exact HF.out⟩
          case measure => simp [intOf]; omega
    · obtain rfl : k = ss.length := by omega
      have q0 : decide ((ss.length : Int) < (ss.length : Int)) = false := decide_eq_false (by omega)
      rw [List.take_length] at HV
      obtain ⟨r0, r1, r2⟩ := res27 HF.out.r
      have lr := Blk.lt HF.out.r
      have zr0 := Blk.frozen HF.out.r 0
      have zr1 := Blk.frozen HF.out.r 1
      have zr2 := Blk.frozen HF.out.r 2
      go_wp2_with fail
      have hff := EnvAt.put HF.out.r HF.out.e.own
      have hgg := gr27 HF.out.g (b := w.heap.size) (Nat.le_refl _) (.slice av vs.length cv) (.slice none 0 0) (.string ⟨#[]⟩)
      generalize (((wr.setCell ⟨w.heap.size, 0, none⟩ (.slice av vs.length cv)).setCell ⟨w.heap.size, 1, none⟩ (.slice none 0 0)).setCell ⟨w.heap.size, 2, none⟩ (.string ⟨#[]⟩)) = W9 at hff hgg ⊢
      obtain ⟨f0, f1, f2⟩ := res27 hff.blk
      refine bodyPost_ret (v := .agg #[.slice av vs.length cv, .slice none 0 0, .string ⟨#[]⟩]) (by simp [results, Tryd.results15, go_sem, f0, f1, f2]) rfl ?_
      exact ⟨.slice av vs.length cv, rfl, by rw [HV.out]; exact hff.own, hgg⟩

end Go.Proofs.YtdcfpklohleoiaaDoor
