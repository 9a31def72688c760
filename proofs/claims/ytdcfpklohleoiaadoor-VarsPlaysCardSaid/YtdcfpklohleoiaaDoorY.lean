/- Right: an env that is right is told so. -/
import Derived.Test.YtdcfpklohleoiaaDoorR
import Derived.Test.YtdcfpklohleoiaaDoorS
import Derived.BigQuiet
namespace Go.Proofs.YtdcfpklohleoiaaDoor
open Go.RowKit
set_option maxRecDepth 100000

set_option maxHeartbeats 4000000 in
theorem right_any (vs : List V) (v : Value) (w : World) (hw : WF vs) (hnl : ∀ a ∈ vs, a.n.length ≤ 9223372036854775807) (ho : Own w 35 4 v vs.length (vcs vs) 0) :
    Calls Tryd.prog 10 #[envV v] w fun e w' => e = .returned (.bool true) ∧ w.grownBy w' none := by
  have hl := hw.len
  have HW := hide hw
  have HNL := hide hnl
  have HO := hide ho
  have Hn := hide (fun (s : List UInt8) W hs => rname_any s W hs)
  have q40 : decide ((vs.length : Int) ≤ 40) = true := decide_eq_true (by omega)
  obtain ⟨a, cap, rfl, _, _⟩ := ho.form
  have HC := hide (fun k (hk : k < vs.length) => (show ∃ g off, a = some ⟨g, off, none⟩ ∧ g < w.heap.size ∧ ∀ j (hj : j < vs.length), w.cell? ⟨g, off + j * 4, none⟩ = some (.string ⟨(vs[j]).n.toArray⟩) ∧ w.cell? ⟨g, off + j * 4 + 1, none⟩ = some (.string ⟨(vs[j]).v.toArray⟩) by
    obtain ⟨g, off, cap2, hv, _, hg, hcs⟩ := v_cells ho (by omega)
    injection hv with hv1 hv2 hv3
    exact ⟨g, off, hv1, hg, fun j hj => ⟨(hcs j hj).1, (hcs j hj).2.1⟩⟩))
  unfold sv at Hn
  clear hw ho hnl
  unfold envV
  go_enter Tryd.func10, Tryd.ntmps10
  have HE := hide (⟨Blk.new w 27 _, HO.out.alloc _⟩ : EnvAt (w.alloc (.cells #[.slice a vs.length cap, .slice none 0 0, .string ⟨#[]⟩] 27)) w.heap.size (.slice a vs.length cap) vs)
  have HG := hide (only_alloc (only_refl w none) (.cells #[.slice a vs.length cap, .slice none 0 0, .string ⟨#[]⟩] 27))
  go_wp2_with fail
  go_loopw [3] (fun v3 wr => ∃ k : Nat, v3 = .int .i64 k ∧ k ≤ vs.length ∧ EnvAt wr w.heap.size (.slice a vs.length cap) vs ∧ w.grownBy wr none) (fun v3 _ => vs.length - (intOf v3).toNat)
  case atStart => exact ⟨0, rfl, Nat.zero_le _, HE.out, HG.out⟩
  case round =>
    obtain ⟨k, rfl, hk, hE, hG⟩ := hrel
    have HEr := hide hE
    have HGr := hide hG
    clear hE hG
    obtain ⟨d0, d1, d2⟩ := res27 HEr.out.blk
    have lb := Blk.lt HEr.out.blk
    by_cases hlt : k < vs.length
    · have q0 : decide ((k : Int) < (vs.length : Int)) = true := decide_eq_true (by omega)
      have hib : (0 : Int) ≤ k ∧ (k : Int) < (vs.length : Int) := by omega
      obtain ⟨g, off, hae, hg, hcs⟩ := HC.out k hlt
      subst hae
      have HCS := hide hcs
      have hgs : g < wr.heap.size := Nat.lt_of_lt_of_le hg HGr.out.size
      have c0 := old_cell HGr.out hg (hcs k hlt).1
      have HNM := hide (HW.out.nm _ (List.getElem_mem hlt))
      have HVL := hide (HW.out.vl _ (List.getElem_mem hlt))
      have HNN := hide (HNL.out _ (List.getElem_mem hlt))
      have HLT := hide (fun (h0 : 0 < k) => srt_lt HW.out.srt (Nat.lt_of_le_of_lt (Nat.sub_le k 1) hlt) hlt (by omega))
      have hc1 := hcs k hlt
      obtain ⟨x, hx⟩ : ∃ x, vs[k] = x := ⟨_, rfl⟩
      rw [hx] at c0 HNM HVL HNN hc1
      have HLT := hide (fun h0 => by have := HLT.out h0; rw [hx] at this; exact this)
      have HC1 := hide hc1
      clear hcs hx hc1
      obtain ⟨xn, xv, xx, xr⟩ := x
      simp only [] at c0
      have Hn2 := hide (fun W => by have := Hn.out xn W HNN.out; rw [HNM.out] at this; exact this)
      go_wp2_with fail
      refine (Hn2.out _).mono ?_
      rintro e w2 ⟨rfl, g2⟩
      have HE2 := hide (HEr.out.grown g2)
      have HG2 := hide (none_trans HGr.out g2)
      clear g2 d0 d1 d2 lb c0 hgs
      obtain ⟨d0, d1, d2⟩ := res27 HE2.out.blk
      have lb := Blk.lt HE2.out.blk
      have hgs : g < w2.heap.size := Nat.lt_of_lt_of_le hg HG2.out.size
      have c0 := old_cell HG2.out hg HC1.out.1
      have c1 := old_cell HG2.out hg HC1.out.2
      have h1 := sz xv
      have hvl : xv.length ≤ 1024 := HVL.out
      have q5 : decide ((1024 : Int) < (xv.length : Int)) = false := decide_eq_false (by omega)
      by_cases hk0 : 0 < k
      · have q2 : decide ((0 : Int) < (k : Int)) = true := decide_eq_true (by omega)
        have hlt1 : k - 1 < vs.length := by omega
        have hi1 : ((k : Int) - 1) = ((k - 1 : Nat) : Int) := by omega
        have hib1 : (0 : Int) ≤ ((k - 1 : Nat) : Int) ∧ ((k - 1 : Nat) : Int) < (vs.length : Int) := by omega
        have p0 := old_cell HG2.out hg (HCS.out (k - 1) hlt1).1
        have ql := HLT.out hk0
        obtain ⟨j, hj⟩ : ∃ j, k - 1 = j := ⟨_, rfl⟩
        obtain ⟨y, hy⟩ : ∃ y, vs[k - 1] = y := ⟨_, rfl⟩
        rw [hy] at p0 ql
        rw [hj] at p0 hib1 hi1
        obtain ⟨yn, yv, yx, yr⟩ := y
        simp only [] at p0 ql
        have hw1 : IntKind.i64.wrap ((k : Int) - 1) = (j : Int) := by rw [hi1]; exact IntWalk.i64_in _ (by omega)
        have hw2 : IntKind.i64.wrap (j : Int) = (j : Int) := IntWalk.i64_in _ (by omega)
        have HY := hide hy
        clear hy hj
        go_wp2_with fail
        go_quiet (fail)
        go_wp2_with fail
        go_roundw
        case rel => exact ⟨k + 1, by go_num, by omega, ⟨HE2.out.blk.drewN _, HE2.out.own⟩, only_drewN HG2.out _⟩
        case measure => simp [intOf]; omega
      · obtain rfl : k = 0 := by omega
        have q2 : decide ((0 : Int) < ((0 : Nat) : Int)) = false := by decide
        go_wp2_with fail
        go_quiet (fail)
        go_wp2_with fail
        go_roundw
        case rel => exact ⟨1, by go_num, by omega, ⟨HE2.out.blk.drewN _, HE2.out.own⟩, only_drewN HG2.out _⟩
        case measure => simp [intOf]; omega
    · obtain rfl : k = vs.length := by omega
      have q0 : decide ((vs.length : Int) < (vs.length : Int)) = false := decide_eq_false (by omega)
      go_wp2_with fail
      go_ret
      exact ⟨rfl, HGr.out⟩

end Go.Proofs.YtdcfpklohleoiaaDoor
