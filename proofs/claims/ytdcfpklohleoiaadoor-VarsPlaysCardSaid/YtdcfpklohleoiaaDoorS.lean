/- The document's at, put. -/
import Derived.Test.YtdcfpklohleoiaaDoorO
namespace Go.Proofs.YtdcfpklohleoiaaDoor
open Go.RowKit
set_option maxRecDepth 100000

def atF (vs : List V) (m : List UInt8) : Int := if foundB vs m = true then (idxF m vs : Nat) else -1
theorem at_hit {vs : List V} (hs : Srt vs) {m : List UInt8} {k : Nat} (hk : k < vs.length) (he : vs[k].n = m) : atF vs m = k := by
  have h1 := look_of_mem hs (List.getElem_mem hk)
  rw [he] at h1
  have h2 : foundB vs m = true := by unfold foundB; rw [h1]; rfl
  have h3 := idx_uniq m vs k (Nat.le_of_lt hk) (fun j hj hjk => by rw [← he]; exact srt_lt hs hj hk hjk) (fun h => by rw [he, lts_irrefl])
  unfold atF
  rw [if_pos h2, ← h3]
theorem at_miss {vs : List V} {m : List UInt8} (h : ∀ j (hj : j < vs.length), vs[j].n ≠ m) : atF vs m = -1 := by
  have h1 : lookF vs m = none := look_none (fun a ha => by
    obtain ⟨j, hj, rfl⟩ := List.getElem_of_mem ha
    exact h j hj)
  unfold atF foundB
  rw [h1]
  rfl
theorem at_found {vs : List V} (hs : Srt vs) {m : List UInt8} (h : foundB vs m = true) : atF vs m = idxF m vs ∧ ∃ hh : idxF m vs < vs.length, vs[idxF m vs] = lookV vs m :=
  ⟨by unfold atF; rw [if_pos h], (put_same hs m h).2⟩
theorem at_none {vs : List V} {m : List UInt8} (h : foundB vs m = false) : atF vs m = -1 := by
  unfold atF; rw [h]; rfl
set_option maxHeartbeats 2000000 in
theorem at_any (vs : List V) (m : List UInt8) (v : Value) (w : World) (hs : Srt vs) (hl : vs.length ≤ 1000) (ho : Own w 35 4 v vs.length (vcs vs) 0) :
    Calls Tryd.prog 45 #[envV v, sv m] w fun e w' => e = .returned (.int .i64 (atF vs m)) ∧ w.grownBy w' none := by
  have HS := hide hs
  by_cases hp : 0 < vs.length
  · obtain ⟨g, off, cap, rfl, _, hg, hcs⟩ := v_cells ho hp
    have HC := hide hcs
    have HE := hide (⟨Blk.new w 27 _, ho.alloc _⟩ : EnvAt (w.alloc (.cells #[.slice (some ⟨g, off, none⟩) vs.length cap, .slice none 0 0, .string ⟨#[]⟩] 27)) w.heap.size (.slice (some ⟨g, off, none⟩) vs.length cap) vs)
    have HG := hide (only_alloc (only_refl w none) (.cells #[.slice (some ⟨g, off, none⟩) vs.length cap, .slice none 0 0, .string ⟨#[]⟩] 27))
    clear ho hcs hs
    unfold sv envV
    go_enter Tryd.func45, Tryd.ntmps45
    go_wp2_with fail
    go_loopw [5] (fun v5 wr => ∃ k : Nat, v5 = .int .i64 k ∧ k ≤ vs.length ∧ (∀ j (h : j < vs.length), j < k → vs[j].n ≠ m) ∧ EnvAt wr w.heap.size (.slice (some ⟨g, off, none⟩) vs.length cap) vs ∧ w.grownBy wr none) (fun v5 _ => vs.length - (intOf v5).toNat)
    case atStart => exact ⟨0, rfl, Nat.zero_le _, fun j _ h => absurd h (Nat.not_lt_zero _), HE.out, HG.out⟩
    case round =>
      obtain ⟨k, rfl, hk, hno, hE, hG⟩ := hrel
      have HNO := hide hno
      have HE := hide hE
      have HG := hide hG
      obtain ⟨d0, d1, d2⟩ := res27 hE.blk
      have lb := Blk.lt hE.blk
      clear hno
      by_cases hlt : k < vs.length
      · have q0 : decide ((k : Int) < (vs.length : Int)) = true := decide_eq_true (by omega)
        have hib : (0 : Int) ≤ k ∧ (k : Int) < (vs.length : Int) := by omega
        have hgs : g < wr.heap.size := Nat.lt_of_lt_of_le hg hG.size
        have c0 := old_cell hG hg (HC.out k hlt).1
        obtain ⟨x, hx⟩ : ∃ x, vs[k] = x := ⟨_, rfl⟩
        rw [hx] at c0
        have HX := hide hx
        clear hE hG hx
        by_cases he : x.n = m
        · have q1 : (x.n == m) = true := by rw [he]; simp
          have HK := hide (at_hit (m := m) HS.out hlt (by rw [HX.out]; exact he))
          have HNE := hide he
          clear he
          go_wp2_with fail
          go_ret
          exact ⟨by rw [HK.out]; rfl, HG.out⟩
        · have q1 : (x.n == m) = false := beq_eq_false_iff_ne.2 he
          have HNE := hide he
          clear he
          go_wp2_with fail
          go_roundw
          case rel => exact ⟨k + 1, by go_num, by omega, fun j h hj => by
            by_cases hjk : j < k
            · exact HNO.out j h hjk
            · obtain rfl : j = k := by omega
              rw [HX.out]; exact HNE.out, HE.out, HG.out⟩
          case measure => simp [intOf]; omega
      · obtain rfl : k = vs.length := by omega
        have q0 : decide ((vs.length : Int) < (vs.length : Int)) = false := decide_eq_false (by omega)
        have HM := hide (at_miss (vs := vs) (m := m) (fun j h => HNO.out j h h))
        clear hE hG
        go_wp2_with fail
        go_ret
        exact ⟨by rw [HM.out]; rfl, HG.out⟩
  · obtain rfl : vs = [] := List.eq_nil_of_length_eq_zero (by omega)
    obtain ⟨a, cap, rfl, _, _⟩ := ho.form
    clear ho hs hp HS
    unfold sv envV
    simp only [List.length_nil]
    go_enter Tryd.func45, Tryd.ntmps45
    go_wp2_with fail
    go_loopw [5] (fun v5 wr => v5 = .int .i64 0 ∧ wr = w.alloc (.cells #[.slice a 0 cap, .slice none 0 0, .string ⟨#[]⟩] 27)) (fun v5 _ => 0)
    case atStart => exact ⟨rfl, rfl⟩
    case round =>
      obtain ⟨rfl, rfl⟩ := hrel
      go_wp2_with fail
      go_ret
      exact ⟨rfl, only_alloc (only_refl w none) _⟩

end Go.Proofs.YtdcfpklohleoiaaDoor
