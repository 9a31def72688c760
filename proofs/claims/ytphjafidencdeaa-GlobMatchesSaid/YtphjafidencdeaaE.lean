/- The walk of set, where a '!' stands ahead. -/
import Derived.Test.YtphjafidencdeaaD
namespace Go.Proofs.Ytphjafidencdeaa
open Go.RowKit
set_option maxRecDepth 100000
def invK (s : Ws) (k : Nat) : Ws := ⟨if 0 < k then 18446744073709551615 - s.a else s.a, if 1 < k then 18446744073709551615 - s.b else s.b, if 2 < k then 18446744073709551615 - s.c else s.c, if 3 < k then 18446744073709551615 - s.d else s.d⟩
theorem xor_all (a : Nat) (h : a < 18446744073709551616) : bits .xor .u64 (if IntKind.u64.signed = true then -1 else IntKind.u64.max) (a : Int) = ((18446744073709551615 - a : Nat) : Int) := by
  show IntKind.u64.wrap ((BitVec.ofInt 64 18446744073709551615 ^^^ BitVec.ofInt 64 (a : Int)).toNat : Int) = _
  rw [show BitVec.ofInt 64 18446744073709551615 = BitVec.allOnes 64 from rfl, BitVec.allOnes_xor, BitVec.toNat_not, BitVec.ofInt_natCast, BitVec.toNat_ofNat, Nat.mod_eq_of_lt h, IntKind.wrap_u64]
  omega

set_option maxHeartbeats 4000000 in
theorem set_true (l : List UInt8) (w : World) (hl : l.length ≤ 1000000) (hn : notB l = true) (R : Option (Ws × Nat)) (hR : setGo addR l 1 1 Ws.zero = R) :
    Calls Try.prog 29 #[sv l] w fun e w' => e = .returned (.tuple #[.agg (outP true R).cells.toArray, .int .i64 (outN R)]) ∧ w.grownBy w' none := by
  have Hp := hide (fun w' => pre18 l [33] w' (by simp) hl)
  have hpos : 1 ≤ l.length := by
    unfold notB at hn; simp only [decide_eq_true_eq] at hn; have := congrArg List.length hn; rw [List.length_take] at this; simp at this; omega
  have hn' : decide (l.take [(33 : UInt8)].length = [33]) = true := hn
  rw [hn'] at Hp
  have h1 := sz l
  have hext : ∀ n, (ByteArray.mk l.toArray).extract n l.length = ⟨(l.drop n).toArray⟩ := fun n => ext_drop l n _ rfl
  unfold sv at Hp ⊢
  have HR := hide hR
  clear hn hn' hR
  go_enter Try.func29, Try.ntmps29
  go_wp2_with fail
  refine (Hp.out _).mono ?_
  rintro e w1 ⟨rfl, rfl⟩
  go_wp2_with fail
  go_loopw [4] (fun v wr => ∃ (i : Nat) (s : Ws), v = .int .i64 i ∧ i ≤ l.length ∧ s.ok ∧ PtAt wr w.heap.size ⟨false, false, s⟩ ∧ w.grownBy wr none ∧ 1 ≤ i ∧ setGo addR l 1 i s = R) (fun v _ => l.length - (intOf v).toNat)
  case atStart => exact ⟨1, Ws.zero, by go_num, hpos, Ws.ok_zero, Blk.new w 38 _, only_alloc (only_refl w none) _, by omega, HR.out⟩
  case round =>
    obtain ⟨i, s, rfl, hi, hs, hp, hg, hfi, hres⟩ := hrel
    have Hs := hide hs
    have HP := hide hp
    have HG := hide hg
    have hpl := Blk.lt hp
    have hpz : ∀ j, wr.frozen? ⟨w.heap.size, j, none⟩ = false := fun j => Blk.frozen hp j
    have HR := hide hres
    clear hs hg hres
    by_cases hlt : i < l.length
    · have q0 : decide ((i : Int) < (l.length : Int)) = true := by simp; omega
      have hat := str_at l i hlt
      have hib : (0 : Int) ≤ i ∧ (i : Int) < (l.length : Int) := by omega
      have hib2 : (0 : Int) ≤ i ∧ (i : Int) ≤ (l.length : Int) := by omega
      obtain ⟨b, hb⟩ : ∃ b, l[i] = b := ⟨_, rfl⟩
      rw [hb] at hat
      by_cases hclose : l[i] = 93 ∧ 1 < i
      · have qb : ((b.toNat : Int) == 93) = true := by rw [← hb, hclose.1]; rfl
        have qf1 : (1 : Int) < (i : Int) := by omega
        have qf2 : 1 < i := by omega
        have hR := setGo_close (add := addR) (s := s) hlt hclose
        rw [HR.out] at hR
        subst hR
        obtain ⟨c0, c1, c2, c3, c4, c5⟩ := hp.c
        clear hclose hb
        go_wp2_with fail
        have Hx := hide (And.intro (xor_all _ (Hs.out 0)) (And.intro (xor_all _ (Hs.out 1)) (And.intro (xor_all _ (Hs.out 2)) (xor_all _ (Hs.out 3)))))
        simp only [Ws.get, if_true, if_false, Nat.reduceEqDiff] at Hx
        go_loopw [30] (fun u wi => ∃ q : Nat, u = .int .i64 q ∧ q ≤ 4 ∧ PtAt wi w.heap.size ⟨false, false, invK s q⟩ ∧ w.grownBy wi none) (fun u _ => 4 - (intOf u).toNat)
        case atStart => exact ⟨0, rfl, by omega, hp, HG.out⟩
        case round =>
          obtain ⟨q, rfl, hq, hp4, hg4⟩ := hrel
          have Hg4 := hide hg4
          clear hg4 c0 c1 c2 c3 c4 c5 hpl hpz
          have hpl := Blk.lt hp4
          have hpz : ∀ j, wr.frozen? ⟨w.heap.size, j, none⟩ = false := fun j => Blk.frozen hp4 j
          rcases (show q = 0 ∨ q = 1 ∨ q = 2 ∨ q = 3 ∨ q = 4 by omega) with rfl | rfl | rfl | rfl | rfl
          iterate 4
            · have Hp4 := hide hp4
              obtain ⟨c0, c1, c2, c3, c4, c5⟩ := hp4.c
              simp only [invK, Nat.lt_irrefl, if_true, if_false, Nat.reduceLT] at c0 c1 c2 c3 c4 c5
              go_wp2_with fail
              try rw [Hx.out.1]
              try rw [Hx.out.2.1]
              try rw [Hx.out.2.2.1]
              try rw [Hx.out.2.2.2]
              go_roundw
              case rel => exact ⟨_ + 1, by go_num, by omega, (by first | exact Blk.set_ Hp4.out 2 _ | exact Blk.set_ Hp4.out 3 _ | exact Blk.set_ Hp4.out 4 _ | exact Blk.set_ Hp4.out 5 _), none_setCell Hg4.out (Nat.le_refl _) _⟩
              case measure => simp [intOf]
          · have hp5 : PtAt wr w.heap.size ⟨false, false, s.inv⟩ := hp4
            have Hp5 := hide hp5
            obtain ⟨c0, c1, c2, c3, c4, c5⟩ := hp5.c
            clear hp4 hp5
            go_wp2_with fail
            have hp1 : PtAt (wr.setCell ⟨w.heap.size, 1, none⟩ (.bool true)) w.heap.size ⟨false, true, s.inv⟩ := Blk.set_ Hp5.out 1 _
            have hP := fin6 hp1 false true s.inv.a s.inv.b s.inv.c s.inv.d
            have hGr := fin6g (none_setCell Hg4.out (p := ⟨w.heap.size, 1, none⟩) (Nat.le_refl _) (.bool true)) false true s.inv.a s.inv.b s.inv.c s.inv.d
            generalize (((((((wr.setCell ⟨w.heap.size, 1, none⟩ (.bool true)).setCell ⟨w.heap.size, 0, none⟩ (.bool false)).setCell ⟨w.heap.size, 1, none⟩ (.bool true)).setCell ⟨w.heap.size, 2, none⟩ (.int .u64 s.inv.a)).setCell ⟨w.heap.size, 3, none⟩ (.int .u64 s.inv.b)).setCell ⟨w.heap.size, 4, none⟩ (.int .u64 s.inv.c)).setCell ⟨w.heap.size, 5, none⟩ (.int .u64 s.inv.d)) = W at hP hGr ⊢
            obtain ⟨d0, d1, d2, d3, d4, d5⟩ := hP.c
            exact bodyPost_ret (v := .tuple #[.agg (outP true (some (s, i + 1))).cells.toArray, .int .i64 (outN (some (s, i + 1)))]) (by simp [results, Try.results29, go_sem, outP, outN, Pt.cells, d0, d1, d2, d3, d4, d5]) rfl ⟨rfl, hGr⟩
      · have hq := hclose
        have hlt9 := hlt
        have hqp := quo_pos (drop_ne hlt)
        have hql := quo_le hlt
        have hqc := quoted_any (l.drop i) wr (drop_ne hlt) (by rw [List.length_drop]; omega)
        obtain ⟨lo, hlo0⟩ : ∃ lo, (quo (l.drop i)).1 = lo := ⟨_, rfl⟩
        obtain ⟨k, hk0⟩ : ∃ k, (quo (l.drop i)).2 = k := ⟨_, rfl⟩
        unfold quoV sv at hqc
        rw [hlo0, hk0] at hqc
        rw [hk0] at hqp hql
        have Hqc := hide hqc
        have hcond : ((b.toNat : Int) == 93) = false ∨ ((b.toNat : Int) == 93) = true ∧ ¬ (1 : Int) < (i : Int) := by
          by_cases h93 : l[i] = 93
          · exact .inr ⟨by rw [← hb, h93]; rfl, fun h => hclose ⟨h93, by omega⟩⟩
          · exact .inl (byte_ne (d := 93) (by rw [← hb]; exact h93))
        have Hcl := hide hclose
        have Hlo := hide hlo0
        have Hk := hide hk0
        have Hp9 := hide hp
        clear hqc hb hclose hq hlo0 hk0 hp
        by_cases hr : i + k + 1 < l.length ∧ l.getD (i + k) 0 = 45 ∧ l.getD (i + k + 1) 0 ≠ 93
        · obtain ⟨hr1, hr2, hr3⟩ := hr
          have hat2 := str_at l (i + k) (by omega)
          have hat3 := str_at l (i + k + 1) (by omega)
          have qb2 : (((l[i + k]'(by omega)).toNat : Int) == 45) = true := by rw [← getD_at (by omega), hr2]; rfl
          have qb3 : (((l[i + k + 1]'(by omega)).toNat : Int) == 93) = false := byte_ne (d := 93) (by rw [← getD_at (by omega)]; exact hr3)
          have qb4 : (((l[i + k + 1]'(by omega)).toNat : Int) != 93) = true := by simp only [bne, qb3]; rfl
          have qj : decide ((i : Int) + k + 1 < (l.length : Int)) = true := by simp; omega
          have hqp2 := quo_pos (drop_ne hr1)
          have hql2 := quo_le hr1
          have hqc2 := fun w' => quoted_any (l.drop (i + k + 1)) w' (drop_ne hr1) (by rw [List.length_drop]; omega)
          obtain ⟨hi2, hhi0⟩ : ∃ hi2, (quo (l.drop (i + k + 1))).1 = hi2 := ⟨_, rfl⟩
          obtain ⟨k2, hk20⟩ : ∃ k2, (quo (l.drop (i + k + 1))).2 = k2 := ⟨_, rfl⟩
          unfold quoV sv at hqc2
          rw [hhi0, hk20] at hqc2
          rw [hk20] at hqp2 hql2
          have Hqc2 := hide hqc2
          have hstep := setGo_range (add := addR) (s := s) hlt Hcl.out (by rw [Hk.out]; exact ⟨hr1, hr2, hr3⟩)
          rw [Hk.out, Hlo.out, hhi0, hk20] at hstep
          have Hstep := hide hstep
          have hjb : (i : Int) + k + 1 < (l.length : Int) := by omega
          clear hqc2 hhi0 hk20 hstep hr2 hr3
          rcases hcond with qb | ⟨qb, qf⟩
          all_goals
            go_wp2_with fail
            refine Hqc.out.mono ?_
            rintro e w2 ⟨rfl, rfl⟩
            go_wp2_with fail
            refine (Hqc2.out _).mono ?_
            rintro e w2 ⟨rfl, rfl⟩
            obtain ⟨F, hF⟩ : ∃ F, addR s lo hi2 = F := ⟨_, rfl⟩
            have HF := hide hF
            have Hfo := hide (show F.ok by rw [← hF]; exact addN_ok Hs.out _ _)
            have hlo := lo.toNat_lt
            have hhi := (hi2).toNat_lt
            clear hF
            go_wp2_with fail
            go_loopw [11] (fun u wi => ∃ (c : Nat) (s1 : Ws), u = .int .i64 c ∧ c ≤ 256 ∧ s1.ok ∧ PtAt wi w.heap.size ⟨false, false, s1⟩ ∧ w.grownBy wi none ∧ addN s1 c ((hi2).toNat + 1 - c) = F) (fun u _ => 256 - (intOf u).toNat)
            case atStart => exact ⟨lo.toNat, s, rfl, by omega, Hs.out, HP.out, HG.out, HF.out⟩
            case round =>
              obtain ⟨c, s1, rfl, hc, hs1, hp1, hg1, hf1⟩ := hrel
              have Hs1 := hide hs1
              have Hp1 := hide hp1
              have Hg1 := hide hg1
              have Hf1 := hide hf1
              clear hs1 hp1 hg1 hf1
              by_cases hcl : c ≤ (hi2).toNat
              · have qc : decide ((c : Int) ≤ ((hi2).toNat : Int)) = true := by simp; omega
                have hcb : ((UInt8.ofNat c).toNat : Int) = c := by rw [UInt8.toNat_ofNat']; omega
                have hcm : (c : Int) % 256 = c := by omega
                go_wp2_with fail
                have hadd := add_blk w.heap.size ⟨false, false, s1⟩ (UInt8.ofNat c) _ Hp1.out Hs1.out
                try rw [hcb] at hadd
                refine hadd.mono ?_
                rintro e w5 ⟨rfl, hp5, hg5⟩
                have Hp5 := hide hp5
                have Hg5 := hide (only_new Hg1.out (Nat.le_refl _) hg5)
                clear hp5 hg5 hadd
                go_wp2
                go_roundw
                case rel =>
                  refine ⟨c + 1, s1.add (UInt8.ofNat c), by go_num, by omega, Ws.ok_add Hs1.out _, Hp5.out, Hg5.out, ?_⟩
                  have := Hf1.out
                  rw [show (hi2).toNat + 1 - c = ((hi2).toNat + 1 - (c + 1)) + 1 by omega] at this
                  exact this
                case measure => simp [intOf]; omega
              · have qc : decide ((c : Int) ≤ ((hi2).toNat : Int)) = false := by simp; omega
                have he : s1 = F := by
                  have := Hf1.out
                  rw [show (hi2).toNat + 1 - c = 0 by omega] at this
                  exact this
                subst he
                go_wp2
                go_roundw
                case rel => exact ⟨i + k + 1 + k2, s1, by go_num, by omega, Hs1.out, Hp1.out, Hg1.out, by omega, by rw [← HR.out, Hstep.out, HF.out]⟩
                case measure => simp [intOf]; omega
        · have hstep := setGo_one (add := addR) (s := s) hlt Hcl.out (by rw [Hk.out]; exact hr)
          rw [Hk.out, Hlo.out] at hstep
          have Hstep := hide hstep
          have hways : (¬ (i : Int) + k + 1 < (l.length : Int)) ∨ (∃ h : i + k + 1 < l.length, ((l[i + k]'(by omega)).toNat : Int) ≠ 45) ∨ (∃ h : i + k + 1 < l.length, ((l[i + k]'(by omega)).toNat : Int) = 45 ∧ ((l[i + k + 1]'(by omega)).toNat : Int) = 93) := by
            by_cases a1 : i + k + 1 < l.length
            · by_cases a2 : l[i + k]'(by omega) = 45
              · by_cases a3 : l[i + k + 1]'(by omega) = 93
                · exact .inr (.inr ⟨a1, by rw [a2]; rfl, by rw [a3]; rfl⟩)
                · exact absurd ⟨a1, by rw [getD_at (by omega)]; exact a2, by rw [getD_at (by omega)]; exact a3⟩ hr
              · refine .inr (.inl ⟨a1, fun e => a2 (UInt8.toNat_inj.1 ?_)⟩)
                have : ((45 : UInt8).toNat : Int) = 45 := rfl
                omega
            · exact .inl (by omega)
          clear hstep hr
          rcases hways with hj | ⟨a1, a2⟩ | ⟨a1, a2, a3⟩
          · rcases hcond with qb | ⟨qb, qf⟩
            all_goals
              go_wp2_with fail
              refine Hqc.out.mono ?_
              rintro e w2 ⟨rfl, rfl⟩
              obtain ⟨F, hF⟩ : ∃ F, addR s lo lo = F := ⟨_, rfl⟩
              have HF := hide hF
              have Hfo := hide (show F.ok by rw [← hF]; exact addN_ok Hs.out _ _)
              have hlo := lo.toNat_lt
              have hhi := (lo).toNat_lt
              clear hF
              go_wp2_with fail
              go_loopw [11] (fun u wi => ∃ (c : Nat) (s1 : Ws), u = .int .i64 c ∧ c ≤ 256 ∧ s1.ok ∧ PtAt wi w.heap.size ⟨false, false, s1⟩ ∧ w.grownBy wi none ∧ addN s1 c ((lo).toNat + 1 - c) = F) (fun u _ => 256 - (intOf u).toNat)
              case atStart => exact ⟨lo.toNat, s, rfl, by omega, Hs.out, HP.out, HG.out, HF.out⟩
              case round =>
                obtain ⟨c, s1, rfl, hc, hs1, hp1, hg1, hf1⟩ := hrel
                have Hs1 := hide hs1
                have Hp1 := hide hp1
                have Hg1 := hide hg1
                have Hf1 := hide hf1
                clear hs1 hp1 hg1 hf1
                by_cases hcl : c ≤ (lo).toNat
                · have qc : decide ((c : Int) ≤ ((lo).toNat : Int)) = true := by simp; omega
                  have hcb : ((UInt8.ofNat c).toNat : Int) = c := by rw [UInt8.toNat_ofNat']; omega
                  have hcm : (c : Int) % 256 = c := by omega
                  go_wp2_with fail
                  have hadd := add_blk w.heap.size ⟨false, false, s1⟩ (UInt8.ofNat c) _ Hp1.out Hs1.out
                  try rw [hcb] at hadd
                  refine hadd.mono ?_
                  rintro e w5 ⟨rfl, hp5, hg5⟩
                  have Hp5 := hide hp5
                  have Hg5 := hide (only_new Hg1.out (Nat.le_refl _) hg5)
                  clear hp5 hg5 hadd
                  go_wp2
                  go_roundw
                  case rel =>
                    refine ⟨c + 1, s1.add (UInt8.ofNat c), by go_num, by omega, Ws.ok_add Hs1.out _, Hp5.out, Hg5.out, ?_⟩
                    have := Hf1.out
                    rw [show (lo).toNat + 1 - c = ((lo).toNat + 1 - (c + 1)) + 1 by omega] at this
                    exact this
                  case measure => simp [intOf]; omega
                · have qc : decide ((c : Int) ≤ ((lo).toNat : Int)) = false := by simp; omega
                  have he : s1 = F := by
                    have := Hf1.out
                    rw [show (lo).toNat + 1 - c = 0 by omega] at this
                    exact this
                  subst he
                  go_wp2
                  go_roundw
                  case rel => exact ⟨i + k, s1, by go_num, by omega, Hs1.out, Hp1.out, Hg1.out, by omega, by rw [← HR.out, Hstep.out, HF.out]⟩
                  case measure => simp [intOf]; omega
          · have hat2 := str_at l (i + k) (by omega)
            have qb2 : (((l[i + k]'(by omega)).toNat : Int) == 45) = false := by rw [beq_eq_false_iff_ne]; exact a2
            have hjb : (i : Int) + k + 1 < (l.length : Int) := by omega
            clear a2
            rcases hcond with qb | ⟨qb, qf⟩
            all_goals
              go_wp2_with fail
              refine Hqc.out.mono ?_
              rintro e w2 ⟨rfl, rfl⟩
              obtain ⟨F, hF⟩ : ∃ F, addR s lo lo = F := ⟨_, rfl⟩
              have HF := hide hF
              have Hfo := hide (show F.ok by rw [← hF]; exact addN_ok Hs.out _ _)
              have hlo := lo.toNat_lt
              have hhi := (lo).toNat_lt
              clear hF
              go_wp2_with fail
              go_loopw [11] (fun u wi => ∃ (c : Nat) (s1 : Ws), u = .int .i64 c ∧ c ≤ 256 ∧ s1.ok ∧ PtAt wi w.heap.size ⟨false, false, s1⟩ ∧ w.grownBy wi none ∧ addN s1 c ((lo).toNat + 1 - c) = F) (fun u _ => 256 - (intOf u).toNat)
              case atStart => exact ⟨lo.toNat, s, rfl, by omega, Hs.out, HP.out, HG.out, HF.out⟩
              case round =>
                obtain ⟨c, s1, rfl, hc, hs1, hp1, hg1, hf1⟩ := hrel
                have Hs1 := hide hs1
                have Hp1 := hide hp1
                have Hg1 := hide hg1
                have Hf1 := hide hf1
                clear hs1 hp1 hg1 hf1
                by_cases hcl : c ≤ (lo).toNat
                · have qc : decide ((c : Int) ≤ ((lo).toNat : Int)) = true := by simp; omega
                  have hcb : ((UInt8.ofNat c).toNat : Int) = c := by rw [UInt8.toNat_ofNat']; omega
                  have hcm : (c : Int) % 256 = c := by omega
                  go_wp2_with fail
                  have hadd := add_blk w.heap.size ⟨false, false, s1⟩ (UInt8.ofNat c) _ Hp1.out Hs1.out
                  try rw [hcb] at hadd
                  refine hadd.mono ?_
                  rintro e w5 ⟨rfl, hp5, hg5⟩
                  have Hp5 := hide hp5
                  have Hg5 := hide (only_new Hg1.out (Nat.le_refl _) hg5)
                  clear hp5 hg5 hadd
                  go_wp2
                  go_roundw
                  case rel =>
                    refine ⟨c + 1, s1.add (UInt8.ofNat c), by go_num, by omega, Ws.ok_add Hs1.out _, Hp5.out, Hg5.out, ?_⟩
                    have := Hf1.out
                    rw [show (lo).toNat + 1 - c = ((lo).toNat + 1 - (c + 1)) + 1 by omega] at this
                    exact this
                  case measure => simp [intOf]; omega
                · have qc : decide ((c : Int) ≤ ((lo).toNat : Int)) = false := by simp; omega
                  have he : s1 = F := by
                    have := Hf1.out
                    rw [show (lo).toNat + 1 - c = 0 by omega] at this
                    exact this
                  subst he
                  go_wp2
                  go_roundw
                  case rel => exact ⟨i + k, s1, by go_num, by omega, Hs1.out, Hp1.out, Hg1.out, by omega, by rw [← HR.out, Hstep.out, HF.out]⟩
                  case measure => simp [intOf]; omega
          · have hat2 := str_at l (i + k) (by omega)
            have hat3 := str_at l (i + k + 1) (by omega)
            have qb2 : (((l[i + k]'(by omega)).toNat : Int) == 45) = true := by rw [beq_iff_eq]; exact a2
            have qb4 : (((l[i + k + 1]'(by omega)).toNat : Int) != 93) = false := by rw [bne_eq_false_iff_eq]; exact a3
            have hjb : (i : Int) + k + 1 < (l.length : Int) := by omega
            clear a2 a3
            rcases hcond with qb | ⟨qb, qf⟩
            all_goals
              go_wp2_with fail
              refine Hqc.out.mono ?_
              rintro e w2 ⟨rfl, rfl⟩
              obtain ⟨F, hF⟩ : ∃ F, addR s lo lo = F := ⟨_, rfl⟩
              have HF := hide hF
              have Hfo := hide (show F.ok by rw [← hF]; exact addN_ok Hs.out _ _)
              have hlo := lo.toNat_lt
              have hhi := (lo).toNat_lt
              clear hF
              go_wp2_with fail
              go_loopw [11] (fun u wi => ∃ (c : Nat) (s1 : Ws), u = .int .i64 c ∧ c ≤ 256 ∧ s1.ok ∧ PtAt wi w.heap.size ⟨false, false, s1⟩ ∧ w.grownBy wi none ∧ addN s1 c ((lo).toNat + 1 - c) = F) (fun u _ => 256 - (intOf u).toNat)
              case atStart => exact ⟨lo.toNat, s, rfl, by omega, Hs.out, HP.out, HG.out, HF.out⟩
              case round =>
                obtain ⟨c, s1, rfl, hc, hs1, hp1, hg1, hf1⟩ := hrel
                have Hs1 := hide hs1
                have Hp1 := hide hp1
                have Hg1 := hide hg1
                have Hf1 := hide hf1
                clear hs1 hp1 hg1 hf1
                by_cases hcl : c ≤ (lo).toNat
                · have qc : decide ((c : Int) ≤ ((lo).toNat : Int)) = true := by simp; omega
                  have hcb : ((UInt8.ofNat c).toNat : Int) = c := by rw [UInt8.toNat_ofNat']; omega
                  have hcm : (c : Int) % 256 = c := by omega
                  go_wp2_with fail
                  have hadd := add_blk w.heap.size ⟨false, false, s1⟩ (UInt8.ofNat c) _ Hp1.out Hs1.out
                  try rw [hcb] at hadd
                  refine hadd.mono ?_
                  rintro e w5 ⟨rfl, hp5, hg5⟩
                  have Hp5 := hide hp5
                  have Hg5 := hide (only_new Hg1.out (Nat.le_refl _) hg5)
                  clear hp5 hg5 hadd
                  go_wp2
                  go_roundw
                  case rel =>
                    refine ⟨c + 1, s1.add (UInt8.ofNat c), by go_num, by omega, Ws.ok_add Hs1.out _, Hp5.out, Hg5.out, ?_⟩
                    have := Hf1.out
                    rw [show (lo).toNat + 1 - c = ((lo).toNat + 1 - (c + 1)) + 1 by omega] at this
                    exact this
                  case measure => simp [intOf]; omega
                · have qc : decide ((c : Int) ≤ ((lo).toNat : Int)) = false := by simp; omega
                  have he : s1 = F := by
                    have := Hf1.out
                    rw [show (lo).toNat + 1 - c = 0 by omega] at this
                    exact this
                  subst he
                  go_wp2
                  go_roundw
                  case rel => exact ⟨i + k, s1, by go_num, by omega, Hs1.out, Hp1.out, Hg1.out, by omega, by rw [← HR.out, Hstep.out, HF.out]⟩
                  case measure => simp [intOf]; omega
    · have q0 : decide ((i : Int) < (l.length : Int)) = false := by simp; omega
      have hR := setGo_end (add := addR) (l := l) (first := 1) (s := s) hlt
      rw [HR.out] at hR
      subst hR
      obtain ⟨c0, c1, c2, c3, c4, c5⟩ := hp.c
      go_wp2
      have hP := fin6 hp false false 0 0 0 0
      have hGr := fin6g HG.out false false 0 0 0 0
      generalize ((((((wr.setCell ⟨w.heap.size, 0, none⟩ (.bool false)).setCell ⟨w.heap.size, 1, none⟩ (.bool false)).setCell ⟨w.heap.size, 2, none⟩ (.int .u64 0)).setCell ⟨w.heap.size, 3, none⟩ (.int .u64 0)).setCell ⟨w.heap.size, 4, none⟩ (.int .u64 0)).setCell ⟨w.heap.size, 5, none⟩ (.int .u64 0)) = W at hP hGr ⊢
      obtain ⟨d0, d1, d2, d3, d4, d5⟩ := hP.c
      exact bodyPost_ret (v := .tuple #[.agg (outP true none).cells.toArray, .int .i64 (outN none)]) (by simp [results, Try.results29, go_sem, outP, outN, pt0, Pt.cells, Ws.zero, d0, d1, d2, d3, d4, d5]) rfl ⟨rfl, hGr⟩

end Go.Proofs.Ytphjafidencdeaa
