/- The argument of DescPlays, opened. -/
import Derived.Test.YtppnegohdogjeaaArgs
namespace Go.Proofs.Ytppnegohdogjeaa
open Go.ChangeShapes Go.WideShapes Go.ChangeAt Go.RowKit Go.Deep
def OpsIn (w : World) (a : Option Addr) (len : Nat) : Prop :=
  ∀ i, i < len → ∃ (b off : Nat) (x0 : Int) (x1 : Int) (x2 : Int) (x3 : Int) (x4 : Int) (x5 : Int) (x6 : Bool) (x7 : Int), a = some ⟨b, off, none⟩ ∧ b < w.heap.size ∧ (Lit.int .i64 x0).wf = true ∧ (Lit.int .i64 x1).wf = true ∧ (Lit.int .i64 x2).wf = true ∧ (Lit.int .i64 x3).wf = true ∧ (Lit.int .i64 x4).wf = true ∧ (Lit.int .i64 x5).wf = true ∧ (Lit.int .i64 x7).wf = true ∧ w.cell? ⟨b, off + i * 8, none⟩ = some (.int .i64 x0) ∧ w.cell? ⟨b, off + i * 8 + 1, none⟩ = some (.int .i64 x1) ∧ w.cell? ⟨b, off + i * 8 + 2, none⟩ = some (.int .i64 x2) ∧ w.cell? ⟨b, off + i * 8 + 3, none⟩ = some (.int .i64 x3) ∧ w.cell? ⟨b, off + i * 8 + 4, none⟩ = some (.int .i64 x4) ∧ w.cell? ⟨b, off + i * 8 + 5, none⟩ = some (.int .i64 x5) ∧ w.cell? ⟨b, off + i * 8 + 6, none⟩ = some (.bool x6) ∧ w.cell? ⟨b, off + i * 8 + 7, none⟩ = some (.int .i64 x7)

theorem opsin_of_trod {H : Type} {enc : TypeId × Value → H} {W : World} {v : Value} {d : DataW H} {p : List MemPlace}
    (hf : DataW.Trod enc Try.prog W 0 (fun _ => true) true 47 v d p) (hlt : ∀ x ∈ p, x.block < W.heap.size) (hv : ∃ a len cap, v = .slice a len cap) :
    ∃ a len cap, v = .slice a len cap ∧ len ≤ 9223372036854775807 ∧ OpsIn W a len := by
  obtain ⟨a0, len0, cap0, rfl⟩ := hv
  obtain ⟨fuel, hf⟩ := hf
  have hC : Try.prog.cellsOf 55 = 8 := by kernel_rfl
  rcases open_slice Try.underlying47 hf with ⟨hcs, hx⟩ | ⟨a, len, cap, m, n, D, Pl, hcs, _, hl, hm, hmm, hx, hi⟩
  · simp [Value.cells] at hcs
    obtain ⟨rfl, rfl, rfl⟩ := hcs
    exact ⟨none, 0, 0, rfl, by omega, fun i h => absurd h (by omega)⟩
  · simp [Value.cells] at hcs
    obtain ⟨rfl, rfl, rfl⟩ := hcs
    simp only [if_true] at hmm
    subst hmm
    unfold maxLen at hm
    rw [hC] at hi hx
    refine ⟨some a, len0, m, rfl, by omega, fun i h => ?_⟩
    obtain ⟨cs0, hc0, ht0⟩ := hi 0 (by omega)
    obtain ⟨_, hl0, hat0⟩ := World.cells?_some hc0
    obtain ⟨b, off, rfl⟩ : ∃ b off, a = ⟨b, off, none⟩ := by
      have h1 := hat0 0 (by omega)
      rw [List.getElem?_eq_getElem (by omega)] at h1
      rw [Go.Deep.add_add] at h1
      exact addr_plain (by simpa using h1)
    obtain ⟨cs, hc, htr⟩ := hi i (by omega)
    obtain ⟨_, hlc, hat⟩ := World.cells?_some hc
    have hat' : ∀ j, j < 8 → W.cell? ⟨b, off + i * 8 + j, none⟩ = cs[j]? := fun j hj => by
      rw [← hat j hj, Go.Deep.add_add, Addr.add_lit, Nat.add_assoc]
    obtain ⟨ys0, n0, _, _, _, yl0, hf0⟩ := DataW.trod_struct Try.underlying55 htr
    have t0_0 := hf0 0 _ rfl
    rw [List.getElem?_eq_getElem (show 0 < ys0.length by rw [yl0]; decide)] at t0_0
    obtain ⟨x0, q0, _, w0⟩ := DataW.trod_int Try.underlying3 t0_0
    have k0 := list_at1 q0
    have t0_1 := hf0 1 _ rfl
    rw [List.getElem?_eq_getElem (show 1 < ys0.length by rw [yl0]; decide)] at t0_1
    obtain ⟨x1, q1, _, w1⟩ := DataW.trod_int Try.underlying3 t0_1
    have k1 := list_at1 q1
    have t0_2 := hf0 2 _ rfl
    rw [List.getElem?_eq_getElem (show 2 < ys0.length by rw [yl0]; decide)] at t0_2
    obtain ⟨x2, q2, _, w2⟩ := DataW.trod_int Try.underlying3 t0_2
    have k2 := list_at1 q2
    have t0_3 := hf0 3 _ rfl
    rw [List.getElem?_eq_getElem (show 3 < ys0.length by rw [yl0]; decide)] at t0_3
    obtain ⟨ys1, n1, _, _, _, yl1, hf1⟩ := DataW.trod_struct Try.underlying41 t0_3
    have t1_0 := hf1 0 _ rfl
    rw [List.getElem?_eq_getElem (show 0 < ys1.length by rw [yl1]; decide)] at t1_0
    obtain ⟨x3, q3, _, w3⟩ := DataW.trod_int Try.underlying3 t1_0
    have k3 := list_at2 (list_at1 q3)
    have t1_1 := hf1 1 _ rfl
    rw [List.getElem?_eq_getElem (show 1 < ys1.length by rw [yl1]; decide)] at t1_1
    obtain ⟨x4, q4, _, w4⟩ := DataW.trod_int Try.underlying3 t1_1
    have k4 := list_at2 (list_at1 q4)
    have t1_2 := hf1 2 _ rfl
    rw [List.getElem?_eq_getElem (show 2 < ys1.length by rw [yl1]; decide)] at t1_2
    obtain ⟨x5, q5, _, w5⟩ := DataW.trod_int Try.underlying3 t1_2
    have k5 := list_at2 (list_at1 q5)
    have t1_3 := hf1 3 _ rfl
    rw [List.getElem?_eq_getElem (show 3 < ys1.length by rw [yl1]; decide)] at t1_3
    obtain ⟨x6, q6, _⟩ := DataW.trod_bool Try.underlying4 t1_3
    have k6 := list_at2 (list_at1 q6)
    have t1_4 := hf1 4 _ rfl
    rw [List.getElem?_eq_getElem (show 4 < ys1.length by rw [yl1]; decide)] at t1_4
    obtain ⟨x7, q7, _, w7⟩ := DataW.trod_int Try.underlying3 t1_4
    have k7 := list_at2 (list_at1 q7)
    refine ⟨b, off, x0, x1, x2, x3, x4, x5, x6, x7, rfl, ?_, w0, w1, w2, w3, w4, w5, w7, (hat' 0 (by omega)).trans k0, (hat' 1 (by omega)).trans k1, (hat' 2 (by omega)).trans k2, (hat' 3 (by omega)).trans k3, (hat' 4 (by omega)).trans k4, (hat' 5 (by omega)).trans k5, (hat' 6 (by omega)).trans k6, (hat' 7 (by omega)).trans k7⟩
    have hx' : p = _ := congrArg Prod.snd hx
    refine hlt (MemPlace.cell b off) ?_
    rw [hx']
    refine List.mem_append_left _ ?_
    simp [MemPlace.row]
    omega

end Go.Proofs.Ytppnegohdogjeaa
