/- slices.Backward: what its closure hands over. -/
import Derived.Test.YtdhfhphbkfgamaaTO
import Derived.RangeFuncNested
import Derived.RangeFuncBound
import Derived.RangeFuncCalls
import Derived.RangeFuncLeaves
import Derived.RangeFuncBox
import Derived.RangeFuncWrites
import Derived.Shelf.Abstract
import Derived.WalkKit
import Derived.OwnWalkIn
import Derived.TacticsInMore
import Derived.LoopNIn
import Derived.LoopIn
namespace Go.Proofs.Ytdhfhphbkfgamaa
open Go.RowKit Lx Go.Shelf
set_option maxRecDepth 100000
attribute [local go_sem] Oper.semAt_some

/-- Every cell stays, but those of one block. -/
def KC (b6 : Nat) (W W' : World) : Prop := ∀ (p : Addr) (v : Value), p.block ≠ b6 → W.cell? p = some v → W'.cell? p = some v
theorem KC.refl (b6 : Nat) (W : World) : KC b6 W W := fun _ _ _ h => h
theorem KC.trans {b6 : Nat} {A B C : World} (h : KC b6 A B) (k : KC b6 B C) : KC b6 A C := fun p v hp hc => k p v hp (h p v hp hc)
/-- What has come when k rounds are over. -/
def revP (zs : List Int) (k : Nat) : List (Nat × Int) := (List.range k).map fun j => (zs.length - 1 - j, zs[zs.length - 1 - j]?.getD 0)
theorem revP_succ (zs : List Int) (k : Nat) : revP zs (k + 1) = revP zs k ++ [(zs.length - 1 - k, zs[zs.length - 1 - k]?.getD 0)] := by simp [revP, List.range_succ]
theorem revP_len (zs : List Int) (k : Nat) : (revP zs k).length = k := by simp [revP]
theorem revP_take (zs : List Int) : ∀ k, k ≤ zs.length → (revP zs k).map Prod.snd = zs.reverse.take k
  | 0, _ => rfl
  | k + 1, h => by
    have hk : k < zs.reverse.length := by rw [List.length_reverse]; omega
    rw [revP_succ, List.map_append, revP_take zs k (by omega), List.take_succ_eq_append_getElem hk, List.getElem_reverse]
    rw [List.map_singleton, List.getElem?_eq_getElem (by omega)]
    rfl
set_option maxHeartbeats 2000000 in
theorem back1_in (F : Fence) (n : Nat) (h8 : F.fn 52) (hro : F.round = none) (hn : 1 ≤ n) (l Bs b6 : Nat) (a : Option Addr) (cap : Nat) (zs : List Int) (hm : zs.length ≤ 9223372036854775807) (hbs : Bs ≠ b6) (J Jx : List (Nat × Int) → World → Prop)
    (hY : ∀ pre x W, J pre W → pre.length < zs.length → YieldAt F (n - 1) Try.prog l #[.int .i64 (x.1 : Int), .int .i64 x.2] W fun e W' =>
      (e = .returned (.bool true) ∧ J (pre ++ [x]) W' ∧ KC b6 W W') ∨ (e = .returned (.bool false) ∧ Jx (pre ++ [x]) W'))
    (W : World) (hBs : W.cell? ⟨Bs, 0, none⟩ = some (.slice a zs.length cap)) (hc : 0 < zs.length → ∃ g off, a = some ⟨g, off, none⟩ ∧ g ≠ b6 ∧ ∀ j, j < zs.length → W.cell? ⟨g, off + j, none⟩ = some (.int .i64 (zs[j]?.getD 0))) (h0 : J [] W) :
    CallsIn F n Try.prog 52 #[.func (.yield l) #[] #[], .pointer (some ⟨Bs, 0, none⟩)] W fun e W' => (∃ v, e = .returned v) ∧
      ((∃ ys, ys = revP zs zs.length ∧ J ys W') ∨ (∃ pre, (∃ k, k ≤ zs.length ∧ pre = revP zs k) ∧ Jx pre W')) := by
  refine callsIn_of_wp Try.func52 rfl h8 ?_ hro
  simp only [Try.ntmps52, List.size_toArray, List.length_cons, List.length_nil, Nat.reduceAdd, Nat.reduceSub, Array.replicate_succ, Array.replicate_zero, List.push_toArray, List.append_toArray, List.nil_append, List.cons_append]
  gi_wp2
  gi_loopw [3] (fun i wr => ∃ k : Nat, k ≤ zs.length ∧ i = .int .i64 ((zs.length : Int) - 1 - k) ∧ J (revP zs k) wr ∧ KC b6 W wr)
    (fun i _ => (intOf i + 1).toNat)
  case atStart => exact ⟨0, Nat.zero_le _, by simp, h0, KC.refl _ _⟩
  case round =>
    obtain ⟨k, hk, rfl, hJs, hnx⟩ := hrel
    have hbx := hnx _ _ hbs hBs
    by_cases hlt : k < zs.length
    · obtain ⟨g, off, rfl, hg, hcs⟩ := hc (by omega)
      have hcx := hnx _ _ hg (hcs (zs.length - 1 - k) (by omega))
      obtain ⟨i, hi⟩ : ∃ i, zs.length - 1 - k = i := ⟨_, rfl⟩
      have hii : (zs.length : Int) - 1 - (k : Int) = (i : Int) := by omega
      have hsuc := revP_succ zs k
      obtain ⟨fn, tmps, assign, body, hy, hR⟩ := hY _ (i, zs[i]?.getD 0) wr hJs (by rw [revP_len]; exact hlt)
      dsimp only at hy
      rw [hi] at hcx hsuc
      rw [hii]
      have hib : (0 : Int) ≤ i ∧ (i : Int) < (zs.length : Int) := by omega
      have HSUC := hide hsuc
      have HII := hide (And.intro hi hii)
      clear hsuc hi hii
      gi_wp2
      refine hR.mono ?_
      rintro e W3 (⟨rfl, hJ3, hk3⟩ | ⟨rfl, hJx3⟩)
      · gi_wp2
        go_roundw
        case rel => exact ⟨k + 1, by omega, by have := HII.out.2; congr 1; omega, by rw [HSUC.out]; exact hJ3, hnx.trans hk3⟩
        case measure => simp [intOf]
      · gi_wp2
        refine bodyPost_ret (results_none rfl _ _ _) rfl ?_
        exact ⟨⟨_, rfl⟩, .inr ⟨_, ⟨k + 1, by omega, HSUC.out.symm⟩, hJx3⟩⟩
    · obtain rfl : k = zs.length := by omega
      have hii : (zs.length : Int) - 1 - (zs.length : Int) = -1 := by omega
      rw [hii]
      gi_wp2
      go_end0
      exact ⟨⟨_, rfl⟩, .inl ⟨_, rfl, hJs⟩⟩
set_option maxHeartbeats 1000000 in
theorem back_in (F : Fence) (n : Nat) (h6 : F.fn 28) (hro : F.round = none) (a : Option Addr) (len cap : Nat) (w : World) :
    CallsIn F n Try.prog 28 #[.slice a len cap] w fun e w' => e = .returned (.func (.func 52) #[] #[.pointer (some ⟨w.heap.size, 0, none⟩)]) ∧ w' = w.alloc (.cells #[.slice a len cap] 33) := by
  refine callsIn_of_wp Try.func28 rfl h6 ?_ hro
  simp only [Try.ntmps28, List.size_toArray, List.length_cons, List.length_nil, Nat.reduceAdd, Nat.reduceSub, Array.replicate_succ, Array.replicate_zero, List.push_toArray, List.append_toArray, List.nil_append, List.cons_append]
  gi_wp2
  go_ret
  exact ⟨rfl, rfl⟩
theorem back_stops (F : Fence) (n : Nat) (h8 : F.fn 52) (hro : F.round = none) (hn : 1 ≤ n) (Bs b6 : Nat) (a : Option Addr) (cap : Nat) (zs : List Int) (hm : zs.length ≤ 9223372036854775807) (w : World) (hBs : Bs < w.heap.size) (hne : Bs ≠ b6)
    (hc : w.cell? ⟨Bs, 0, none⟩ = some (.slice a zs.length cap)) (hI : 0 < zs.length → ∃ g off, a = some ⟨g, off, none⟩ ∧ g ≠ b6 ∧ g < w.heap.size ∧ ∀ j, j < zs.length → w.cell? ⟨g, off + j, none⟩ = some (.int .i64 (zs[j]?.getD 0))) :
    SeqStopsK F n Try.prog 52 #[.pointer (some ⟨Bs, 0, none⟩)] (fun x : Nat × Int => #[Value.int .i64 (x.1 : Int), Value.int .i64 x.2]) (KC b6) (fun ys => ys = revP zs zs.length) (fun pre => ∃ k, k ≤ zs.length ∧ pre = revP zs k) zs.length w := fun l J Jx W hW _ _ hY h0 => by
  refine back1_in F n h8 hro hn l Bs b6 a cap zs hm hne J Jx hY W ((hW.cell (p := ⟨Bs, 0, none⟩) hBs).trans hc) (fun hp => ?_) h0
  obtain ⟨g, off, ha, hg, hlt, hcs⟩ := hI hp
  exact ⟨g, off, ha, hg, fun j hj => (hW.cell (p := ⟨g, off + j, none⟩) hlt).trans (hcs j hj)⟩

end Go.Proofs.Ytdhfhphbkfgamaa
