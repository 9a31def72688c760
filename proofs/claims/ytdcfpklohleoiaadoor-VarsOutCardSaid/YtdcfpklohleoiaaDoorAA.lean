/- Same, of two lists of texts and of two envs that hold the same. -/
import Derived.Test.YtdcfpklohleoiaaDoorM
import Derived.BigQuiet
namespace Go.Proofs.YtdcfpklohleoiaaDoor
open Go.RowKit
set_option maxRecDepth 100000

set_option maxHeartbeats 4000000 in
theorem lsame_any (ss : List (List UInt8)) (a1 a2 : Option Addr) (c1 c2 : Nat) (w : World) (h1 : StrL w a1 ss) (h2 : StrL w a2 ss) (hl : ss.length ≤ 1000000) :
    Calls Tryd.prog 17 #[.slice a1 ss.length c1, .slice a2 ss.length c2] w fun e w' => e = .returned (.bool true) ∧ w.grownBy w' none := by
  have HA := hide h1
  have HB := hide h2
  have q40 : ((ss.length : Int) != (ss.length : Int)) = false := by simp
  clear h1 h2
  go_enter Tryd.func17, Tryd.ntmps17
  go_wp2_with fail
  go_loopw [5] (fun v3 wr => ∃ k : Nat, v3 = .int .i64 k ∧ k ≤ ss.length ∧ w.grownBy wr none) (fun v3 _ => ss.length - (intOf v3).toNat)
  case atStart => exact ⟨0, rfl, Nat.zero_le _, only_refl w none⟩
  case round =>
    obtain ⟨k, rfl, hk, hG⟩ := hrel
    have HGr := hide hG
    clear hG
    by_cases hlt : k < ss.length
    · have q0 : decide ((k : Int) < (ss.length : Int)) = true := decide_eq_true (by omega)
      have hib : (0 : Int) ≤ k ∧ (k : Int) < (ss.length : Int) := by omega
      obtain ⟨b1, o1, rfl, hb1, p1⟩ := HA.out k hlt
      obtain ⟨b2, o2, rfl, hb2, p2⟩ := HB.out k hlt
      have p1 := old_cell HGr.out hb1 p1
      have p2 := old_cell HGr.out hb2 p2
      have hs1 : b1 < wr.heap.size := Nat.lt_of_lt_of_le hb1 HGr.out.size
      have hs2 : b2 < wr.heap.size := Nat.lt_of_lt_of_le hb2 HGr.out.size
      obtain ⟨s, hs⟩ : ∃ s, ss[k] = s := ⟨_, rfl⟩
      rw [hs] at p1 p2
      unfold sv at p1 p2
      have qs : (s == s) = true := by simp
      clear hs
      go_wp2_with fail
      go_quiet (fail)
      go_wp2_with fail
      go_roundw
      case rel => exact ⟨k + 1, by go_num, by omega, only_drewN HGr.out _⟩
      case measure => simp [intOf]; omega
    · obtain rfl : k = ss.length := by omega
      have q0 : decide ((ss.length : Int) < (ss.length : Int)) = false := decide_eq_false (by omega)
      go_wp2_with fail
      go_ret
      exact ⟨rfl, HGr.out⟩

structure TwoEn (w : World) (b1 b2 : Nat) (v1 v2 : Value) (vs : List V) : Prop where
  x : EnvAt w b1 v1 vs
  y : EnvAt w b2 v2 vs
theorem TwoEn.grown {w w' : World} {b1 b2 : Nat} {v1 v2 : Value} {vs : List V} (h : TwoEn w b1 b2 v1 v2 vs) (hg : w.grownBy w' none) : TwoEn w' b1 b2 v1 v2 vs := ⟨h.x.grown hg, h.y.grown hg⟩
theorem TwoEn.drewN {w : World} {b1 b2 : Nat} {v1 v2 : Value} {vs : List V} (h : TwoEn w b1 b2 v1 v2 vs) (n : Nat) : TwoEn (w.drewN n) b1 b2 v1 v2 vs := ⟨⟨h.x.blk.drewN n, h.x.own⟩, ⟨h.y.blk.drewN n, h.y.own⟩⟩

set_option maxHeartbeats 4000000 in
theorem rsame_any (vs : List V) (v1 v2 : Value) (w : World) (h1 : Own w 35 4 v1 vs.length (vcs vs) 0) (h2 : Own w 35 4 v2 vs.length (vcs vs) 0) (hl : vs.length ≤ 1000) :
    Calls Tryd.prog 16 #[envV v1, envV v2] w fun e w' => e = .returned (.bool true) ∧ w.grownBy w' none := by
  have q40 : ((vs.length : Int) != (vs.length : Int)) = false := by simp
  have HO1 := hide h1
  have HO2 := hide h2
  obtain ⟨a1, c1, rfl, _, _⟩ := h1.form
  obtain ⟨a2, c2, rfl, _, _⟩ := h2.form
  clear h1 h2
  have HT := hide (⟨⟨(Blk.new w 27 #[.slice a1 vs.length c1, .slice none 0 0, .string ⟨#[]⟩]).alloc (.cells #[.slice a2 vs.length c2, .slice none 0 0, .string ⟨#[]⟩] 27), (HO1.out.alloc _).alloc _⟩, ⟨Blk.new1 w _ 27 #[.slice a2 vs.length c2, .slice none 0 0, .string ⟨#[]⟩], (HO2.out.alloc _).alloc _⟩⟩ :
    TwoEn ((w.alloc (.cells #[.slice a1 vs.length c1, .slice none 0 0, .string ⟨#[]⟩] 27)).alloc (.cells #[.slice a2 vs.length c2, .slice none 0 0, .string ⟨#[]⟩] 27)) w.heap.size (w.heap.size + 1) (.slice a1 vs.length c1) (.slice a2 vs.length c2) vs)
  have HG := hide (only_alloc (only_alloc (only_refl w none) (.cells #[.slice a1 vs.length c1, .slice none 0 0, .string ⟨#[]⟩] 27)) (.cells #[.slice a2 vs.length c2, .slice none 0 0, .string ⟨#[]⟩] 27))
  unfold envV
  go_enter Tryd.func16, Tryd.ntmps16
  go_wp2_with fail
  go_loopw [5] (fun v3 wr => ∃ k : Nat, v3 = .int .i64 k ∧ k ≤ vs.length ∧ TwoEn wr w.heap.size (w.heap.size + 1) (.slice a1 vs.length c1) (.slice a2 vs.length c2) vs ∧ w.grownBy wr none) (fun v3 _ => vs.length - (intOf v3).toNat)
  case atStart => exact ⟨0, rfl, Nat.zero_le _, HT.out, HG.out⟩
  case round =>
    obtain ⟨k, rfl, hk, hT, hG⟩ := hrel
    have HTr := hide hT
    have HGr := hide hG
    clear hT hG
    obtain ⟨d0, d1, d2⟩ := res27 HTr.out.x.blk
    obtain ⟨e0, e1, e2⟩ := res27 HTr.out.y.blk
    have lb1 := Blk.lt HTr.out.x.blk
    have lb2 := Blk.lt HTr.out.y.blk
    by_cases hlt : k < vs.length
    · have q0 : decide ((k : Int) < (vs.length : Int)) = true := decide_eq_true (by omega)
      have hib : (0 : Int) ≤ k ∧ (k : Int) < (vs.length : Int) := by omega
      obtain ⟨g1, o1, k1, hv1, _, hg1, hcs1⟩ := v_cells HTr.out.x.own (by omega)
      obtain ⟨g2, o2, k2, hv2, _, hg2, hcs2⟩ := v_cells HTr.out.y.own (by omega)
      injection hv1 with hv1 _ hv1'
      injection hv2 with hv2 _ hv2'
      subst hv1 hv2
      clear hv1' hv2'
      obtain ⟨x0, x1, x2, x3⟩ := hcs1 k hlt
      obtain ⟨y0, y1, y2, y3⟩ := hcs2 k hlt
      obtain ⟨x, hx⟩ : ∃ x, vs[k] = x := ⟨_, rfl⟩
      rw [hx] at x0 x1 x2 x3 y0 y1 y2 y3
      clear hcs1 hcs2 hx
      obtain ⟨xn, xv, xx, xr⟩ := x
      simp only [] at x0 x1 x2 x3 y0 y1 y2 y3
      have qn : (xn == xn) = true := by simp
      have qv : (xv == xv) = true := by simp
      go_wp2_with fail
      go_quiet (fail)
      go_wp2_with fail
      go_roundw
      case rel => exact ⟨k + 1, by go_num, by omega, HTr.out.drewN _, only_drewN HGr.out _⟩
      case measure => simp [intOf]; omega
    · obtain rfl : k = vs.length := by omega
      have q0 : decide ((vs.length : Int) < (vs.length : Int)) = false := decide_eq_false (by omega)
      go_wp2_with fail
      refine wp_loop_rounds 1 ?_
      rw [rounds_succ]
      go_wp2_with fail
      go_ret
      exact ⟨rfl, HGr.out⟩

end Go.Proofs.YtdcfpklohleoiaaDoor
