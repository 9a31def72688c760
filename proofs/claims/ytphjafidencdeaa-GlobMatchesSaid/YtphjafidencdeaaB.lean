/- A part's set of bytes: four words; has and add. -/
import Derived.Test.YtphjafidencdeaaA
import Derived.Test.YtphjafidencdeaaStep
import Derived.Test.YtphjafidencdeaaPerm
import Derived.Laws.Bits64
import Derived.Laws.ShiftsVarLaws
namespace Go.Proofs.Ytphjafidencdeaa
open Go.RowKit

structure Ws where
  a : Nat
  b : Nat
  c : Nat
  d : Nat
def Ws.get (s : Ws) (i : Nat) : Nat := if i = 0 then s.a else if i = 1 then s.b else if i = 2 then s.c else s.d
def Ws.ok (s : Ws) : Prop := ∀ i, s.get i < 18446744073709551616
structure Pt where
  many : Bool
  wild : Bool
  s : Ws
def Pt.cells (p : Pt) : List Value := [.bool p.many, .bool p.wild, .int .u64 p.s.a, .int .u64 p.s.b, .int .u64 p.s.c, .int .u64 p.s.d]
def Ws.has (s : Ws) (c : UInt8) : Bool := (s.get (c.toNat / 64)).testBit (c.toNat % 64)

theorem and1_u64 (X n : Nat) (hX : X < 18446744073709551616) : (bits .and .u64 ((X : Int) / 2 ^ n) 1 == 1) = X.testBit n := by
  have h0 : ((X : Int) / 2 ^ n) = ((X / 2 ^ n : Nat) : Int) := by simp
  have hlt : X / 2 ^ n < 18446744073709551616 := Nat.lt_of_le_of_lt (Nat.div_le_self _ _) hX
  rw [h0]
  have h1 : bits .and .u64 ((X / 2 ^ n : Nat) : Int) 1 = ((X / 2 ^ n % 2 : Nat) : Int) := by
    show IntKind.u64.wrap ((BitVec.ofInt 64 ((X / 2 ^ n : Nat) : Int) &&& BitVec.ofInt 64 1).toNat : Int) = _
    rw [BitVec.toNat_and, BitVec.ofInt_natCast, BitVec.toNat_ofNat, show (BitVec.ofInt 64 1).toNat = 1 from rfl, Nat.and_one_is_mod, IntKind.wrap_u64]
    omega
  rw [h1, Nat.testBit_eq_decide_div_mod_eq]
  by_cases h : X / 2 ^ n % 2 = 1
  · rw [h]; rfl
  · rw [decide_eq_false h, beq_eq_false_iff_ne]; omega
theorem or_bit_u64 (X n : Nat) (hX : X < 18446744073709551616) (hn : n < 64) : bits .or .u64 (X : Int) ((2 ^ n : Nat) : Int) = ((X ||| 2 ^ n : Nat) : Int) ∧ X ||| 2 ^ n < 18446744073709551616 := by
  have hp : 2 ^ n < 18446744073709551616 := by
    have : 2 ^ n < 2 ^ 64 := Nat.pow_lt_pow_of_lt (by decide) hn
    simpa using this
  have hlt : X ||| 2 ^ n < 2 ^ 64 := Nat.or_lt_two_pow (by simpa using hX) (by simpa using hp)
  refine ⟨?_, by simpa using hlt⟩
  show IntKind.u64.wrap ((BitVec.ofInt 64 (X : Int) ||| BitVec.ofInt 64 ((2 ^ n : Nat) : Int)).toNat : Int) = _
  rw [BitVec.toNat_or, BitVec.ofInt_natCast, BitVec.toNat_ofNat, BitVec.ofInt_natCast, BitVec.toNat_ofNat, Nat.mod_eq_of_lt (by simpa using hX), Nat.mod_eq_of_lt (by simpa using hp), IntKind.wrap_u64]
  omega

set_option maxHeartbeats 400000 in
theorem has_any (pb off : Nat) (p : Pt) (c : UInt8) (w : World) (hok : p.s.ok) (hc : w.cell? ⟨pb, off + 2 + c.toNat / 64, none⟩ = some (.int .u64 (p.s.get (c.toNat / 64)))) :
    Calls Try.prog 20 #[.pointer (some ⟨pb, off, none⟩), .int .u8 c.toNat] w fun e w' => e = .returned (.bool (p.s.has c)) ∧ w' = w := by
  go_enter Try.func20, Try.ntmps20
  have hi : (0 : Int) ≤ (c.toNat : Int) / 64 ∧ (c.toNat : Int) / 64 < 4 := by have := c.toNat_lt; omega
  go_wp2_with fail
  go_ret
  refine ⟨?_, rfl⟩
  have := and1_u64 (p.s.get (c.toNat / 64)) (c.toNat % 64) (hok _)
  unfold Ws.has
  rw [← this]
  rfl

def Ws.put (s : Ws) (i v : Nat) : Ws := if i = 0 then { s with a := v } else if i = 1 then { s with b := v } else if i = 2 then { s with c := v } else { s with d := v }
def Ws.add (s : Ws) (c : UInt8) : Ws := s.put (c.toNat / 64) (s.get (c.toNat / 64) ||| 2 ^ (c.toNat % 64))
set_option maxHeartbeats 400000 in
theorem add_any (pb off : Nat) (s : Ws) (c : UInt8) (w : World) (hok : s.ok) (hc : w.cell? ⟨pb, off + 2 + c.toNat / 64, none⟩ = some (.int .u64 (s.get (c.toNat / 64)))) (hz : w.frozen? ⟨pb, off + 2 + c.toNat / 64, none⟩ = false) :
    Calls Try.prog 30 #[.pointer (some ⟨pb, off, none⟩), .int .u8 c.toNat] w fun e w' => e = .returned (.tuple #[]) ∧ w' = (w.setCell ⟨pb, off + 2 + c.toNat / 64, none⟩ (.int .u64 (s.get (c.toNat / 64) ||| 2 ^ (c.toNat % 64) : Nat))).drew := by
  have hi : (0 : Int) ≤ (c.toNat : Int) / 64 ∧ (c.toNat : Int) / 64 < 4 := by have := c.toNat_lt; omega
  have h63 : bits BinOp.and IntKind.u8 (c.toNat : Int) 63 = ((c.toNat % 64 : Nat) : Int) := by
    show IntKind.u8.wrap ((BitVec.ofInt 8 (c.toNat : Int) &&& BitVec.ofInt 8 63).toNat : Int) = _
    have hc8 := c.toNat_lt
    rw [BitVec.toNat_and, BitVec.ofInt_natCast, BitVec.toNat_ofNat, Nat.mod_eq_of_lt hc8, show (BitVec.ofInt 8 63).toNat = 2 ^ 6 - 1 from rfl, Nat.and_two_pow_sub_one_eq_mod, show IntKind.u8.wrap ((c.toNat % 2 ^ 6 : Nat) : Int) = ((c.toNat % 2 ^ 6 : Nat) : Int) % 256 from by simp [IntKind.wrap, IntKind.bits, IntKind.signed]]
    omega
  have hsh : IntKind.u64.wrap (2 ^ ((c.toNat : Int) % 64).toNat) = 2 ^ (c.toNat % 64) := by
    rw [show ((c.toNat : Int) % 64).toNat = c.toNat % 64 by omega, IntKind.wrap_u64]
    have hp : 2 ^ (c.toNat % 64) < 2 ^ 64 := Nat.pow_lt_pow_of_lt (by decide) (Nat.mod_lt _ (by omega))
    have e : (2 : Int) ^ (c.toNat % 64) = ((2 ^ (c.toNat % 64) : Nat) : Int) := by simp
    have hq : ((2 ^ (c.toNat % 64) : Nat) : Int) < 18446744073709551616 := by
      have : ((2 ^ (c.toNat % 64) : Nat) : Int) < ((2 ^ 64 : Nat) : Int) := Int.ofNat_lt.2 hp
      exact this
    rw [e, Int.emod_eq_of_lt (Int.natCast_nonneg _) hq]
  have hn : ((c.toNat : Int) / 64).toNat = c.toNat / 64 := by omega
  obtain ⟨h1, h2⟩ := or_bit_u64 (s.get (c.toNat / 64)) (c.toNat % 64) (hok _) (Nat.mod_lt _ (by omega))
  go_enter Try.func30, Try.ntmps30
  go_wp2_with fail
  refine wp_region_perm [0, 1, 2, 3, 4, 5, 6, 7, 8, 9, 10, 11, 12, 13] [14] (by kernel_rfl) (by kernel_rfl) (fun W => W.cell? ⟨pb, off + 2 + c.toNat / 64, none⟩ = some (.int .u64 (s.get (c.toNat / 64)))) hc ?_
  simp only [pick, List.getElem?_cons_zero, List.getElem?_cons_succ]
  iterate 9
    refine wpTake_cons ?_ (by rfl) ?_ ?_
    rotate_left
    · (intro W9 hSW; go_simp; try with_reducible rfl)
    simp only [Act.put, List.setIfInBounds_toArray, List.set_cons_zero, List.set_cons_succ, hn, h63]
  refine wpTake_cons (.int .u64 ((2 ^ (c.toNat % 64) : Nat) : Int)) (by rfl) (fun W9 hSW => by go_simp; try exact hsh) ?_
  simp only [Act.put, List.setIfInBounds_toArray, List.set_cons_zero, List.set_cons_succ]
  refine wpTake_cons (.int .u64 ((s.get (c.toNat / 64) ||| 2 ^ (c.toNat % 64) : Nat) : Int)) (by rfl) (fun W9 hSW => by go_simp; try exact h1) ?_
  simp only [Act.put, List.setIfInBounds_toArray, List.set_cons_zero, List.set_cons_succ]
  iterate 3
    refine wpTake_cons ?_ (by rfl) ?_ ?_
    rotate_left
    · (intro W9 hSW; go_simp; try with_reducible rfl)
    simp only [Act.put, List.setIfInBounds_toArray, List.set_cons_zero, List.set_cons_succ, hn, h63]
  refine wpTake_nil ?_
  refine wpForce_one ?_
  go_wp2
  refine NoPanic.normal ?_
  go_wp2
  refine bodyPost_end (results_none rfl _ _ _) rfl ?_
  exact ⟨rfl, rfl⟩

theorem get_put (s : Ws) (i v j : Nat) (hi : i < 4) (hj : j < 4) : (s.put i v).get j = if j = i then v else s.get j := by
  unfold Ws.put Ws.get
  rcases (show i = 0 ∨ i = 1 ∨ i = 2 ∨ i = 3 by omega) with rfl | rfl | rfl | rfl <;> rcases (show j = 0 ∨ j = 1 ∨ j = 2 ∨ j = 3 by omega) with rfl | rfl | rfl | rfl <;> rfl
theorem get_big (s : Ws) (j : Nat) (hj : 3 ≤ j) : s.get j = s.d := by
  unfold Ws.get
  rw [if_neg (by omega), if_neg (by omega), if_neg (by omega)]
theorem Ws.ok_of {s : Ws} (h : ∀ i, i < 4 → s.get i < 18446744073709551616) : s.ok := fun i => by
  by_cases hi : i < 4
  · exact h i hi
  · rw [get_big s i (by omega), ← get_big s 3 (by omega)]; exact h 3 (by omega)
theorem Ws.ok_add {s : Ws} (h : s.ok) (c : UInt8) : (s.add c).ok := by
  have hc := c.toNat_lt
  refine Ws.ok_of fun i hi => ?_
  unfold Ws.add
  rw [get_put _ _ _ _ (by omega) hi]
  split
  · exact (or_bit_u64 _ _ (h _) (Nat.mod_lt _ (by omega))).2
  · exact h i
/-- What add does to what has tells. -/
theorem has_add (s : Ws) (c d : UInt8) : (s.add c).has d = (s.has d || c == d) := by
  have hc := c.toNat_lt
  have hd := d.toNat_lt
  unfold Ws.has Ws.add
  rw [get_put _ _ _ _ (by omega) (by omega)]
  by_cases h : d.toNat / 64 = c.toNat / 64
  · rw [if_pos h, Nat.testBit_or, Nat.testBit_two_pow, h]
    congr 1
    by_cases e : c = d
    · subst e; simp
    · have : ¬ c.toNat % 64 = d.toNat % 64 := fun e' => e (UInt8.toNat_inj.1 (by omega))
      simp [this, e]
  · rw [if_neg h]
    have : ¬ c = d := fun e => h (by rw [e])
    simp [this]
def Ws.zero : Ws := ⟨0, 0, 0, 0⟩
def Ws.all : Ws := ⟨18446744073709551615, 18446744073709551615, 18446744073709551615, 18446744073709551615⟩
def Ws.inv (s : Ws) : Ws := ⟨18446744073709551615 - s.a, 18446744073709551615 - s.b, 18446744073709551615 - s.c, 18446744073709551615 - s.d⟩
theorem Ws.ok_zero : Ws.zero.ok := Ws.ok_of fun i hi => by
  rcases (show i = 0 ∨ i = 1 ∨ i = 2 ∨ i = 3 by omega) with rfl | rfl | rfl | rfl <;> decide
theorem Ws.ok_all : Ws.all.ok := Ws.ok_of fun i hi => by
  rcases (show i = 0 ∨ i = 1 ∨ i = 2 ∨ i = 3 by omega) with rfl | rfl | rfl | rfl <;> decide
theorem Ws.get_inv (s : Ws) (i : Nat) : s.inv.get i = 18446744073709551615 - s.get i := by
  unfold Ws.get Ws.inv
  repeat' split
  all_goals rfl
theorem Ws.ok_inv (s : Ws) : s.inv.ok := fun i => by rw [Ws.get_inv]; omega
theorem has_zero (d : UInt8) : Ws.zero.has d = false := by
  unfold Ws.has
  have : Ws.zero.get (d.toNat / 64) = 0 := by
    unfold Ws.get Ws.zero
    repeat' split
    all_goals rfl
  rw [this, Nat.zero_testBit]
theorem has_inv (s : Ws) (h : s.ok) (d : UInt8) : s.inv.has d = !s.has d := by
  unfold Ws.has
  rw [Ws.get_inv]
  have hx := h (d.toNat / 64)
  have : 18446744073709551615 - s.get (d.toNat / 64) = 2 ^ 64 - (s.get (d.toNat / 64) + 1) := by omega
  rw [this, Nat.testBit_two_pow_sub_succ (by simpa using hx)]
  have hm : d.toNat % 64 < 64 := Nat.mod_lt _ (by omega)
  simp [hm]
theorem has_all (d : UInt8) : Ws.all.has d = true := by
  have : Ws.all = Ws.zero.inv := rfl
  rw [this, has_inv _ Ws.ok_zero, has_zero]
  rfl

end Go.Proofs.Ytphjafidencdeaa
