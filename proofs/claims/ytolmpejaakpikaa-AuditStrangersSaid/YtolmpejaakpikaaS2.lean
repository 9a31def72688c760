/- The walk of the third law. -/
import Derived.Test.YtolmpejaakpikaaR2
import Derived.Test.YtolmpejaakpikaaTree
import Derived.Deep.DeepCutAuto
namespace Go.Proofs.Ytolmpejaakpikaa
open Go.RowKit Go.Maps
set_option maxRecDepth 100000

theorem and_bound (x : Int) (m : Nat) (hm : m < 9223372036854775808) : ∃ a : Nat, a ≤ m ∧ bits .and .i64 x (m : Int) = (a : Int) := by
  have h : (BitVec.ofInt 64 x &&& BitVec.ofInt 64 (m : Int)).toNat ≤ m := by
    rw [BitVec.toNat_and]
    refine Nat.le_trans Nat.and_le_right ?_
    rw [BitVec.ofInt_natCast, BitVec.toNat_ofNat]
    exact Nat.mod_le _ _
  refine ⟨(BitVec.ofInt 64 x &&& BitVec.ofInt 64 (m : Int)).toNat, h, ?_⟩
  show IntKind.i64.wrap ((BitVec.ofInt 64 x &&& BitVec.ofInt 64 (m : Int)).toNat : Int) = _
  rw [IntKind.wrap_i64]
  omega
theorem idB_of {n : Int} (h : 0 ≤ n ∧ n ≤ 65535) : idB n = true := by
  simp [idB, badB]; omega

/-! ### the events -/
def E1 : Ev := evZ 1 zero 18 0 0 0 2 0 0
def E2 : Ev := evZ 2 zero 26 1 0 0 0 0 0
def E3 (u : Int) : Ev := evZ 2 zero 23 0 u 3 0 0 0
def E4 (c : Cr) : Ev := evZ 2 c 3 0 0 0 0 0 0
def EX (c : Cr) (m o : Int) : Ev := evZ 2 c 19 0 0 0 0 m o
def EB (c : Cr) : Ev := evZ 2 c 23 0 0 0 0 0 0
def us (u : Int) : Cr := ⟨u, u, u, 3, 3⟩
def nw (u x : Int) : Cr := ⟨u, x, x, 3, 3⟩
def pl (u : Int) : List Ev := [E1, E2, E3 u, E4 (us u)]
def two_ (p : Pc) : RS := ⟨[⟨1, ⟨zero, 1, false, false⟩⟩, ⟨2, p⟩], 2⟩
theorem idx_two (p : Pc) : idx (two_ p).L 2 = some 1 := by unfold two_; rw [idx_cons, idx_cons]; rfl
theorem step_put {p q : Pc} {e : Ev} (he : e.pid = 2) (h : dec p 2 e = .put q) : stepR (two_ p) e = (two_ q, true) := by
  unfold stepR
  rw [he, idx_two]
  show (match dec p 2 e with | .no => _ | .keep => _ | .fork q => _ | .drop => _ | .put q => _) = _
  rw [h]
  rfl
theorem step_no {p : Pc} {e : Ev} (he : e.pid = 2) (h : dec p 2 e = .no) : (stepR (two_ p) e).2 = false := by
  unfold stepR
  rw [he, idx_two]
  show (match dec p 2 e with | .no => _ | .keep => _ | .fork q => _ | .drop => _ | .put q => _ : RS × Bool).2 = _
  rw [h]
theorem s1 : stepR r0 E1 = (two_ ⟨zero, 2, false, false⟩, true) := by
  unfold stepR
  rw [show E1.pid = 1 from rfl, idx_r0]
  simp [r0, dec, E1, evZ, sameC, zero, forkWhy, two_]
theorem s2 : stepR (two_ ⟨zero, 2, false, false⟩) E2 = (two_ ⟨zero, 2, true, false⟩, true) :=
  step_put rfl (by simp [dec, E2, evZ, sameC, zero])
theorem ofF_us {u : Int} (h : 0 ≤ u ∧ u ≤ 65535) : ofF u 3 = (us u, 0) := by
  have h1 := idB_of h
  have h3 : idB 3 = true := idB_of (by omega)
  simp [ofF, Cr.ok, h1, h3, us]
theorem s3 {u : Int} (h : 1 ≤ u ∧ u ≤ 4096) : stepR (two_ ⟨zero, 2, true, false⟩) (E3 u) = (two_ ⟨us u, 0, true, false⟩, true) := by
  refine step_put rfl ?_
  have h1 := ofF_us (u := u) (by omega)
  have hne : (u == 0) = false := by simp; omega
  simp [dec, E3, evZ, sameC, zero, badBecome, becomePc, h1, us, hne]
theorem s4 {u : Int} (h : 1 ≤ u ∧ u ≤ 4096) : stepR (two_ ⟨us u, 0, true, false⟩) (E4 (us u)) = (two_ ⟨us u, 0, true, false⟩, true) := by
  refine step_put rfl ?_
  have hne : ¬ u = 0 := by omega
  simp [dec, E4, evZ, sameC, us, hne]
theorem sfake {u : Int} (h : 1 ≤ u ∧ u ≤ 4096) : (stepR (two_ ⟨us u, 0, true, false⟩) (E4 zero)).2 = false := by
  refine step_no rfl ?_
  have hne : ¬ u = 0 := by omega
  simp [dec, E4, evZ, sameC, us, zero, hne]
def nwWhy (x : Int) : Int := if x ≠ 0 then 0 else 3
theorem sexec {u m o x : Int} (h : 1 ≤ u ∧ u ≤ 4096) (ho : 0 ≤ o ∧ o ≤ 4095) (hx : (mb m != 0) = true ∧ x = o ∨ (mb m != 0) = false ∧ x = u) : stepR (two_ ⟨us u, 0, true, false⟩) (EX (us u) m o) = (two_ ⟨nw u x, nwWhy x, false, false⟩, true) := by
  refine step_put rfl ?_
  have hne : ¬ u = 0 := by omega
  have h1 : idB u = true := idB_of (by omega)
  have h2 : idB o = true := idB_of (by omega)
  have h3 : idB 3 = true := idB_of (by omega)
  have hE : execF (us u) m o = (nw u x, 0) := by
    unfold execF
    rw [show okTwo (us u) o = true by simp [okTwo, Cr.ok, us, h1, h2, h3], if_pos rfl]
    rcases hx with ⟨hm, rfl⟩ | ⟨hm, rfl⟩
    · rw [if_pos hm]; rfl
    · rw [if_neg (by simpa using hm)]; rfl
  have hi2 : (EX (us u) m o).i 2 = m := rfl
  have hi3 : (EX (us u) m o).i 3 = o := rfl
  unfold dec execPc
  simp only [hi2, hi3, hE]
  simp [EX, evZ, sameC, us, nw, nwWhy, hne]
theorem sgood {u x : Int} : stepR (two_ ⟨nw u x, nwWhy x, false, false⟩) (E4 (nw u x)) = (two_ ⟨nw u x, nwWhy x, false, false⟩, true) := by
  refine step_put rfl ?_
  by_cases hx : x = 0
  · simp [dec, E4, evZ, sameC, nw, nwWhy, hx]
  · simp [dec, E4, evZ, sameC, nw, nwWhy, hx]
theorem sbecome {u x : Int} : (stepR (two_ ⟨nw u x, nwWhy x, false, false⟩) (EB (nw u x))).2 = false := by
  refine step_no rfl ?_
  have h0 : idB 0 = true := idB_of (by omega)
  by_cases hx : x = 0
  · simp [dec, EB, evZ, sameC, nw, nwWhy, hx, badBecome]
  · simp [dec, EB, evZ, sameC, nw, nwWhy, hx, badBecome]
theorem res_pl {u : Int} (h : 1 ≤ u ∧ u ≤ 4096) (more : List Ev) : res (pl u ++ more) r0 0 = res more (two_ ⟨us u, 0, true, false⟩) 4 := by
  unfold pl
  simp only [List.cons_append, List.nil_append, res, s1, s2, s3 h, s4 h, if_true]
  rfl
theorem res_l {u : Int} (h : 1 ≤ u ∧ u ≤ 4096) : res (pl u) r0 0 = -1 := by
  have := res_pl h []
  rw [List.append_nil] at this
  exact this
theorem res_fake {u : Int} (h : 1 ≤ u ∧ u ≤ 4096) : res (pl u ++ [E4 zero]) r0 0 = 4 := by
  rw [res_pl h]
  unfold res
  rw [sfake h]
  rfl
theorem res_good {u m o x : Int} (h : 1 ≤ u ∧ u ≤ 4096) (ho : 0 ≤ o ∧ o ≤ 4095) (hx : (mb m != 0) = true ∧ x = o ∨ (mb m != 0) = false ∧ x = u) : res (pl u ++ [EX (us u) m o] ++ [E4 (nw u x)]) r0 0 = -1 := by
  rw [List.append_assoc, res_pl h]
  simp only [List.cons_append, List.nil_append, res, sexec h ho hx, sgood, if_true]
theorem res_become {u m o x : Int} (h : 1 ≤ u ∧ u ≤ 4096) (ho : 0 ≤ o ∧ o ≤ 4095) (hx : (mb m != 0) = true ∧ x = o ∨ (mb m != 0) = false ∧ x = u) : res (pl u ++ [EX (us u) m o] ++ [E4 (nw u x)] ++ [EB (nw u x)]) r0 0 = 6 := by
  rw [List.append_assoc, List.append_assoc, res_pl h]
  simp only [List.cons_append, List.nil_append, res, sexec h ho hx, sgood, sbecome, if_true]
  simp

end Go.Proofs.Ytolmpejaakpikaa
