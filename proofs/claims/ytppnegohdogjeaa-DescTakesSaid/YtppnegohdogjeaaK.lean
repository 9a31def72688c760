/- The walk of DescTakes: whatever the numbers, it answers true. -/
import Derived.Test.YtppnegohdogjeaaI
namespace Go.Proofs.Ytppnegohdogjeaa
open Go.RowKit

theorem ofInt31 : (BitVec.ofInt 64 31).toNat = 31 := by decide
theorem and31 (z : Int) : ∃ k : Nat, k < 32 ∧ bits .and .i64 z 31 = (k : Int) := by
  refine ⟨(BitVec.ofInt 64 z &&& BitVec.ofInt 64 31).toNat, ?_, ?_⟩
  · rw [BitVec.toNat_and, ofInt31]
    exact Nat.lt_of_le_of_lt Nat.and_le_right (by decide)
  · show IntKind.i64.wrap ((BitVec.ofInt 64 z &&& BitVec.ofInt 64 31).toNat : Int) = _
    have h : (BitVec.ofInt 64 z &&& BitVec.ofInt 64 31).toNat ≤ 31 := by rw [BitVec.toNat_and, ofInt31]; exact Nat.and_le_right
    rw [IntKind.wrap_i64]
    omega

def tk (rs : List Int) : Array Value := (rs.map fun x => Value.bool (x != -1)).toArray
theorem tk_set (rs : List Int) (j : Nat) (x : Int) (b : Bool) (hb : (x != -1) = b) : (tk rs).setIfInBounds j (.bool b) = tk (rs.set j x) := by
  unfold tk
  rw [List.setIfInBounds_toArray, List.map_set, hb]
theorem tk_get (rs : List Int) (j : Nat) (hj : j < rs.length) : (tk rs)[j]? = some (.bool (rs[j] != -1)) := by simp [tk, hj]

/-- The row and what the law knows of it. -/
structure TkRel (w0 : World) (wr : World) (g : Nat) (v : Value) (rs : List Int) : Prop where
  own : Own wr 3 1 v 20 (icells rs) 0
  blk : Blk wr g 35 (tk rs)
  below : Below w0.heap.size w0 wr
  hg : w0.heap.size ≤ g
  len : rs.length = 20
  low : ∀ i (h : i < rs.length), -1 ≤ rs[i]
theorem TkRel.rd {w0 wr : World} {g : Nat} {v : Value} {rs : List Int} (h : TkRel w0 wr g v rs) : Rd wr wr.heap.size v rs := Rd.of_own (by rw [h.len]; exact h.own)
theorem own_ne {w : World} {g : Nat} {v : Value} {n : Nat} {xs : List Value} {cs : Array Value} (h : Own w 3 1 v n xs 0) (hg : Blk w g 35 cs) : v.ownBlock ≠ some g := by
  intro he
  rcases h.2 with ⟨rfl, _⟩ | ⟨g', off, cap, cur, fz, rfl, hh, _⟩
  · simp [Value.ownBlock] at he
  · have : g' = g := by simpa [Value.ownBlock] using he
    subst this
    unfold Blk at hg
    rw [hg] at hh
    injection hh with hh
    injection hh with _ ht
    exact absurd ht (by decide)
/-- Another row, and the mark of one place turned. -/
theorem TkRel.turn {w0 wr w' : World} {g : Nat} {v v' : Value} {rs : List Int} (h : TkRel w0 wr g v rs) (j : Nat) (x : Int) (hx : -1 ≤ x) (b : Bool) (hb : (x != -1) = b) (hm : Made wr w' v' (rs.set j x)) :
    TkRel w0 (w'.setCell ⟨g, j, none⟩ (.bool b)) g v' (rs.set j x) := by
  have hl := h.len
  have hlen : (rs.set j x).length = 20 := by rw [List.length_set]; exact hl
  have hown : Own w' 3 1 v' 20 (icells (rs.set j x)) 0 := by have := hm.own; rwa [hlen] at this
  have hblk := h.blk.grown hm.grown (by simp)
  refine ⟨hown.far (own_ne hown hblk) _, ?_, (below_none h.below h.below.size hm.grown).setCell (p := ⟨g, j, none⟩) h.hg _, h.hg, hlen, fun i hi => ?_⟩
  · rw [← tk_set rs j x b hb]; exact hblk.set_ j _
  · rw [List.getElem_set]
    split
    · exact hx
    · exact h.low i (by rwa [List.length_set] at hi)

theorem ff_none {rs : List Int} : ∀ (m k : Nat), rs.length - k = m → (∀ i (h : i < rs.length), k ≤ i → rs[i] ≠ -1) → ff rs k = none := by
  intro m
  induction m with
  | zero => intro k hm _; exact ff_end (by omega)
  | succ m ih =>
    intro k hm h
    rw [ff_next (by omega) (h k (by omega) (Nat.le_refl _))]
    exact ih (k + 1) (by omega) fun i hi hk => h i hi (by omega)
theorem ff_some {rs : List Int} {j : Nat} (hj : j < rs.length) (hx : rs[j] = -1) : ∀ (m k : Nat), j - k = m → k ≤ j → (∀ i (h : i < rs.length), k ≤ i → i < j → rs[i] ≠ -1) → ff rs k = some j := by
  intro m
  induction m with
  | zero =>
    intro k hm hk _
    have : k = j := by omega
    subst this
    exact ff_here hj hx
  | succ m ih =>
    intro k hm hk h
    rw [ff_next (by omega) (h k (by omega) (Nat.le_refl _) (by omega))]
    exact ih (k + 1) (by omega) (by omega) fun i hi h1 h2 => h i hi (by omega) h2

set_option maxRecDepth 100000 in
set_option maxHeartbeats 4000000 in
theorem takes_any (a : Option Addr) (len cap : Nat) (hlen : len ≤ 9223372036854775807) (w : World) (ha : IntsIn w a len) :
    Calls Try.prog 4 #[.slice a len cap] w fun e w' => e = .returned (.bool true) ∧ Below w.heap.size w w' := by
  have Ha := hide ha
  clear ha
  go_enter Try.func4, Try.ntmps4
  go_wp2_with fail
  go_at_call 8
  refine (shown_any w).mono ?_
  rintro e w1 ⟨rfl, hg⟩
  have G1 := hide hg
  clear hg
  go_wp2_with fail
  go_at_call 19
  refine (row_any w1).mono ?_
  rintro e w2 ⟨v0, rfl, hM⟩
  obtain ⟨a0, cap0, rfl, _, _⟩ := hM.own.form
  have G2 := hide (only_trans G1.out hM.grown)
  have HM := hide hM
  clear hM
  have R0 := hide (show TkRel w (w2.alloc (.cells #[.bool false, .bool false, .bool false, .bool false, .bool false, .bool false, .bool false, .bool false, .bool false, .bool false, .bool false, .bool false, .bool false, .bool false, .bool false, .bool false, .bool false, .bool false, .bool false, .bool false] 35)) w2.heap.size (.slice a0 negs.length cap0) negs from
    ⟨by have := HM.out.own; rw [negs_len] at this ⊢; exact this.alloc _, Blk.new w2 35 _, below_of_none (only_alloc G2.out _), G2.out.size, negs_len, by decide⟩)
  clear G2 HM
  rw [negs_len] at R0 ⊢
  go_wp2_with fail
  generalize w2.heap.size = g at R0 ⊢
  go_loopw [4, 6] (fun vr u wr => ∃ (k : Nat) (rs : List Int) (ar : Option Addr) (cr : Nat), u = .int .i64 k ∧ vr = .slice ar 20 cr ∧ k ≤ 100 ∧ TkRel w wr g (.slice ar 20 cr) rs) (fun _ u _ => 100 - (intOf u).toNat)
  case atStart => exact ⟨0, negs, _, _, rfl, rfl, by omega, R0.out⟩
  case round =>
    obtain ⟨k, rs, ar, cr, rfl, rfl, hk, hR⟩ := hrel
    clear R0
    by_cases hlt : k < len ∧ k < 100
    · obtain ⟨hlt, hlt2⟩ := hlt
      obtain ⟨b, off, z, rfl, hb, hz, c0⟩ := Ha.out k hlt
      have c0 : wr.cell? ⟨b, off + k, none⟩ = _ := (hR.below.cell (p := ⟨b, off + k, none⟩) hb).trans c0
      obtain ⟨m, hm, hbits⟩ := and31 z
      have q1 : decide ((k : Int) < len) = true := by simp; omega
      have q2 : decide ((k : Int) < 100) = true := by simp; omega
      have hlen20 := hR.len
      have hzf := fun j => hR.blk.frozen j
      have hread := hide hR.rd
      by_cases hA : ∃ h : m < rs.length, rs[m] ≠ -1
      · obtain ⟨hm20, hx⟩ := hA
        have tm : wr.cell? ⟨g, m, none⟩ = some (.bool true) := by rw [hR.blk.cell, tk_get rs m hm20]; simp [hx]
        have hlow := hR.low m hm20
        obtain ⟨x, hxx⟩ : ∃ x, x = rs[m] := ⟨_, rfl⟩
        rw [← hxx] at hlow hx
        have hx0 : 0 ≤ x := by omega
        have hat : atRes rs m = (x, true) := by unfold atRes; rw [dif_pos (by simpa using hm20)]; simp [← hxx, hx]
        have hcl : closeRes rs m = (rs.set m (-1), x, true) := by unfold closeRes; rw [hat]; rfl
        have HR := hide hR
        have Hcl := hide hcl
        have Hm20 := hide hm20
        have q3 : decide ((m : Int) < 20) = true := by simp; omega
        have q4 : (m : Int) < 20 := by omega
        clear hR hat hcl hxx hlow hx hm20 hzf
        go_wp2_with fail
        go_at_call 13
        refine (close_any _ rs m _ wr hread.out (by omega)).mono ?_
        rw [Hcl.out]
        rintro e w5 ⟨v', rfl, hM⟩
        have hT := HR.out.turn m (-1) (by omega) false rfl hM
        have hblk := HR.out.blk.grown hM.grown (by simp)
        have t5 : w5.cell? ⟨g, m, none⟩ = some (.bool true) := none_cell hM.grown HR.out.blk.lt tm
        have z5 : w5.frozen? ⟨g, m, none⟩ = false := hblk.frozen m
        obtain ⟨a5, c5, e5, _, _⟩ := hM.own.form
        rw [List.length_set, hlen20] at e5
        subst e5
        have HT := hide hT
        clear hM hT hblk tm
        go_wp2
        go_roundw
        case rel => exact ⟨k + 1, _, _, _, by go_num, rfl, by omega, HT.out⟩
        case measure => simp [intOf]; omega
      · have hB : (decide ((m : Int) < 20) = false) ∨ (decide ((m : Int) < 20) = true ∧ (m : Int) < 20 ∧ wr.cell? ⟨g, m, none⟩ = some (.bool false)) := by
          by_cases h20 : m < 20
          · right
            have hm20 : m < rs.length := by omega
            refine ⟨by simp; omega, by omega, ?_⟩
            have hx : rs[m] = -1 := Classical.byContradiction fun h => hA ⟨hm20, h⟩
            rw [hR.blk.cell, tk_get rs m hm20, hx]
            rfl
          · left; simp; omega
        have hcell : ∀ j (h : j < rs.length), wr.cell? ⟨g, j, none⟩ = some (.bool (rs[j] != -1)) := fun j hj => by rw [hR.blk.cell, tk_get rs j hj]
        have Hcell := hide hcell
        have HR := hide hR
        have Hlen := hide hlen20
        clear hA hcell hR hzf hlen20
        rcases hB with q3 | ⟨q3, q4, tm⟩
        all_goals
          go_wp2_with fail
          go_loop [11] (fun u => ∃ j : Nat, u = .int .i64 j ∧ j ≤ 20 ∧ ∀ i (h : i < rs.length), i < j → rs[i] ≠ -1) (fun u => 20 - (intOf u).toNat)
          case atStart => exact ⟨0, rfl, by omega, fun i _ h => absurd h (by omega)⟩
          case round =>
            obtain ⟨j, rfl, hj, hall⟩ := hrel
            by_cases hj20 : j < 20
            · have hjl : j < rs.length := by have := Hlen.out; omega
              have tj := Hcell.out j hjl
              by_cases hx : rs[j] = -1
              · rw [hx] at tj
                have hf : ff rs 0 = some j := ff_some hjl hx _ 0 rfl (by omega) fun i hi _ h => hall i hi h
                have hp : putRes rs k 0 = (rs.set j k, (j : Int), 0) := by unfold putRes; rw [show (max 0 (0 : Int)).toNat = 0 from rfl, hf]
                have Hp := hide hp
                have Hjl := hide hjl
                have e1 : ((j : Int) == 20) = false := by simp; omega
                clear hf hp hall hx
                go_wp2_with fail
                go_at_call 10
                refine (put_any _ rs k 0 (by omega) _ wr hread.out (by have := Hlen.out; omega)).mono ?_
                rw [Hp.out]
                rintro e w5 ⟨v', rfl, hM⟩
                have hT := HR.out.turn j k (by omega) true (by simp) hM
                have hblk := HR.out.blk.grown hM.grown (by simp)
                have t5 := none_cell hM.grown HR.out.blk.lt (Hcell.out j Hjl.out)
                have z5 : w5.frozen? ⟨g, j, none⟩ = false := hblk.frozen j
                obtain ⟨g5, o5, c5, e5, hn5, hc5, _, hcell5⟩ := hM.own.some_ (by rw [List.length_set]; have := Hlen.out; omega)
                have r5 : w5.cell? ⟨g5, o5 + j, none⟩ = some (.int .i64 k) := (hcell5 j (by rw [List.length_set]; have := Hjl.out; omega)).trans (by simp [icells, Hjl.out])
                rw [List.length_set, Hlen.out] at e5 hn5
                subst e5
                unfold maxLen at hc5
                have HT := hide hT
                clear hM hT hblk hcell5
                go_wp2
                go_roundw
                case rel => exact ⟨k + 1, _, _, _, by go_num, rfl, by omega, HT.out⟩
                case measure => simp [intOf]; omega
              · have tj2 : wr.cell? ⟨g, j, none⟩ = some (.bool true) := by rw [tj]; simp [hx]
                have Hall := hide (show ∀ i (h : i < rs.length), i < j + 1 → rs[i] ≠ -1 from fun i hi h => by
                  by_cases hij : i = j
                  · subst hij; exact hx
                  · exact hall i hi (by omega))
                clear tj hall hx
                go_wp2
                go_round
                case rel => exact ⟨j + 1, by go_num, by omega, Hall.out⟩
                case measure => simp [intOf]; omega
            · have hj : j = 20 := by omega
              subst hj
              have hf : ff rs 0 = none := ff_none _ 0 rfl fun i hi _ => hall i hi (by have := Hlen.out; omega)
              have hp : putRes rs k 0 = ([], 0, 12) := by unfold putRes; rw [show (max 0 (0 : Int)).toNat = 0 from rfl, hf]
              have Hp := hide hp
              clear hf hp hall
              go_wp2_with fail
              go_at_call 10
              refine (put_any _ rs k 0 (by omega) _ wr hread.out (by have := Hlen.out; omega)).mono ?_
              rw [Hp.out]
              rintro e w5 ⟨v', rfl, hM⟩
              have hT : TkRel w w5 g (.slice ar 20 cr) rs := ⟨HR.out.own.keep fun b hb => hM.grown.block b (HR.out.own.lt hb) (by simp), HR.out.blk.grown hM.grown (by simp), below_none HR.out.below HR.out.below.size hM.grown, HR.out.hg, HR.out.len, HR.out.low⟩
              have HT := hide hT
              clear hM hT
              go_wp2
              go_roundw
              case rel => exact ⟨k + 1, _, _, _, by go_num, rfl, by omega, HT.out⟩
              case measure => simp [intOf]; omega
    · have HR := hide hR
      clear hR
      by_cases hlt2 : k < len
      all_goals
        go_wp2
        go_ret
        exact ⟨rfl, HR.out.below⟩

end Go.Proofs.Ytppnegohdogjeaa
