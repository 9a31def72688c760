/- The steps of a law, opened; both tables at the start; what reads of them. -/
import Derived.Test.YtljlbdbgocohlaaW
import Derived.Test.YtljlbdbgocohlaaArgs
namespace Go.Proofs.Ytljlbdbgocohlaa
open Go.ChangeShapes Go.WideShapes Go.ChangeAt Go.RowKit Go.Deep
def OpsIn (w : World) (a : Option Addr) (len : Nat) : Prop :=
  ∀ i, i < len → ∃ (b off : Nat) (x0 : Int) (x1 : Int) (x2 : Int) (x3 : Bool), a = some ⟨b, off, none⟩ ∧ b < w.heap.size ∧ (Lit.int .i64 x0).wf = true ∧ (Lit.int .i64 x1).wf = true ∧ (Lit.int .i64 x2).wf = true ∧ w.cell? ⟨b, off + i * 4, none⟩ = some (.int .i64 x0) ∧ w.cell? ⟨b, off + i * 4 + 1, none⟩ = some (.int .i64 x1) ∧ w.cell? ⟨b, off + i * 4 + 2, none⟩ = some (.int .i64 x2) ∧ w.cell? ⟨b, off + i * 4 + 3, none⟩ = some (.bool x3)

theorem opsin_of_trod {H : Type} {enc : TypeId × Value → H} {W : World} {v : Value} {d : DataW H} {p : List MemPlace}
    (hf : DataW.Trod enc Try.prog W 0 (fun _ => true) true 40 v d p) (hlt : ∀ x ∈ p, x.block < W.heap.size) (hv : ∃ a len cap, v = .slice a len cap) :
    ∃ a len cap, v = .slice a len cap ∧ len ≤ 9223372036854775807 ∧ OpsIn W a len := by
  obtain ⟨a0, len0, cap0, rfl⟩ := hv
  obtain ⟨fuel, hf⟩ := hf
  rcases open_slice_fields Try.underlying40 Try.underlying45 (by kernel_rfl) (by kernel_rfl) hf with ⟨hcs, hx⟩ | ⟨a, len, cap, m, D, Pl, hcs, _, hl, hm, hmm, hx, hi⟩
  · simp [Value.cells] at hcs
    obtain ⟨rfl, rfl, rfl⟩ := hcs
    exact ⟨none, 0, 0, rfl, by omega, fun i h => absurd h (by omega)⟩
  · simp [Value.cells] at hcs
    obtain ⟨rfl, rfl, rfl⟩ := hcs
    simp only [if_true] at hmm
    subst hmm
    unfold maxLen at hm
    refine ⟨some a, len0, m, rfl, by omega, fun i h => ?_⟩
    obtain ⟨_, _, _, _, _, h0⟩ := hi 0 (by omega)
    obtain ⟨v0, y0, c0, _, _⟩ := h0 0 _ rfl
    obtain ⟨b, off, rfl⟩ := addr_plain (by simpa using c0)
    obtain ⟨ys, n, _, _, _, hcell⟩ := hi i (by omega)
    obtain ⟨u0, z0, e0, _, t0⟩ := hcell 0 _ rfl
    obtain ⟨u1, z1, e1, _, t1⟩ := hcell 1 _ rfl
    obtain ⟨u2, z2, e2, _, t2⟩ := hcell 2 _ rfl
    obtain ⟨u3, z3, e3, _, t3⟩ := hcell 3 _ rfl
    obtain ⟨x0, q0, _, w0⟩ := DataW.trod_int Try.underlying3 t0
    obtain ⟨x1, q1, _, w1⟩ := DataW.trod_int Try.underlying3 t1
    obtain ⟨x2, q2, _, w2⟩ := DataW.trod_int Try.underlying3 t2
    obtain ⟨x3, q3, _⟩ := DataW.trod_bool Try.underlying4 t3
    simp only [List.cons.injEq, and_true] at q0 q1 q2 q3
    subst q0
    subst q1
    subst q2
    subst q3
    rw [Addr.add_lit] at e0 e1 e2 e3
    refine ⟨b, off, x0, x1, x2, x3, rfl, ?_, w0, w1, w2, ?_, ?_, ?_, ?_⟩
    · have hx' : p = _ := congrArg Prod.snd hx
      refine hlt (MemPlace.cell b off) ?_
      rw [hx']
      refine List.mem_append_left _ ?_
      simp [MemPlace.row]
      omega
    · simpa using e0
    · simpa [Nat.add_assoc] using e1
    · simpa [Nat.add_assoc] using e2
    · simpa [Nat.add_assoc] using e3

theorem both_start {w w1 w2 w3 : World} {b b' : Nat} {S S' : Nat → Prop} (h1 : w.grownBy w1 none) (h2 : Fresh w1 w2 b newPS S) (h3 : RFresh w2 w3 b' newPS.rs S') : Both w w3 b b' none_ newPS newPS.rs :=
  ⟨S, S', h2.tab.gr h3.gr, h3.tab, fun k hk hk' => by have := h2.tab.lt hk; have := h3.new k hk'; omega, fun k hk => Nat.le_trans h1.size (h2.new k hk), fun k hk => Nat.le_trans h1.size (Nat.le_trans h2.gr.size (h3.new k hk)), only_trans (only_trans h1 h2.gr) h3.gr, fun _ _ h => h.elim⟩

def getP (st : PS) (a : Int) : Pr × Bool := match idx st.L a with | some n => (st.L.getD n pr0, true) | none => (pr0, false)
section
variable {w0 w : World} {b b' : Nat} {K : Kept} {st : PS} {r : RS}
theorem getT (H : Hid (Both w0 w b b' K st r)) (a : Int) {D : Pr} {y : Bool} (hr : getP st a = (D, y)) : Calls Try.prog 14 #[.pointer (some ⟨b, 0, none⟩), .int .i64 a] w fun e w' => e = .returned (.tuple #[D.agg, .bool y]) ∧ w.grownBy w' none := by
  obtain ⟨v, mb, h⟩ := H.out.at
  have := get_any b v mb st a w h
  unfold getP at hr
  cases hi : idx st.L a with
  | none =>
    rw [hi] at this hr
    cases hr
    exact this
  | some n =>
    rw [hi] at this hr
    cases hr
    exact this
theorem getR (H : Hid (Both w0 w b b' K st st.rs)) (a : Int) {D : Pr} {y : Bool} (hr : getP st a = (D, y)) : Calls Try.prog 20 #[.pointer (some ⟨b', 0, none⟩), .int .i64 a] w fun e w' => e = .returned (.tuple #[D.agg, .bool y]) ∧ w.grownBy w' none := by
  obtain ⟨v, u, h⟩ := H.out.rat
  have := rget_any b' v u st.rs a w h
  unfold getP at hr
  have e1 : st.rs.L = st.L := rfl
  rw [e1] at this
  cases hi : idx st.L a with
  | none =>
    rw [hi] at this hr
    cases hr
    exact this
  | some n =>
    rw [hi] at this hr
    cases hr
    exact this
theorem countT (H : Hid (Both w0 w b b' K st r)) (c : Int) (hc : wfi c) (n : Nat) : Calls Try.prog 13 #[.pointer (some ⟨b, 0, none⟩), .int .i64 c] (w.drewN n) fun e w' => e = .returned (.int .i64 (st.f c)) ∧ w' = w.drewN n := by
  obtain ⟨v, mb, h⟩ := (H.out.gr_ (only_drewN (only_refl _ none) n)).at
  exact (count_any b v mb st c hc _ h).mono fun _ _ h => ⟨h.1, h.2.symm⟩
theorem countR (H : Hid (Both w0 w b b' K st st.rs)) (hi : Inv st) (c : Int) (n : Nat) : Calls Try.prog 21 #[.pointer (some ⟨b', 0, none⟩), .int .i64 c] (w.drewN n) fun e w' => e = .returned (.int .i64 (st.f c)) ∧ w' = w.drewN n := by
  obtain ⟨v, u, h⟩ := (H.out.gr_ (only_drewN (only_refl _ none) n)).rat
  rw [hi.f c]
  exact (rcount_any b' v u st.rs c _ h).mono fun _ _ h => ⟨h.1, h.2.symm⟩
theorem knownT (H : Hid (Both w0 w b b' K st r)) (n : Nat) : Calls Try.prog 19 #[.pointer (some ⟨b, 0, none⟩)] (w.drewN n) fun e w' => e = .returned (.int .i64 st.U.length) ∧ w' = w.drewN n := by
  obtain ⟨v, mb, h⟩ := (H.out.gr_ (only_drewN (only_refl _ none) n)).at
  exact (known_any b v mb st _ h).mono fun _ _ h => ⟨h.1, h.2.symm⟩
end
theorem sAll {w0 w : World} {b : Nat} {K : Kept} {st : PS} (H : SoloK w0 w b K st) : Calls Try.prog 18 #[.pointer (some ⟨b, 0, none⟩)] w fun e w' => ∃ g off cap, e = .returned (.slice (some ⟨g, off, none⟩) st.L.length cap) ∧ PrsIs w' 34 (.slice (some ⟨g, off, none⟩) st.L.length cap) st.L ∧ w.heap.size ≤ g ∧ w.grownBy w' none ∧ ∃ o, w'.heap[g]? = some o := by
  obtain ⟨v, mb, h⟩ := H.at
  refine (all_any b v mb st w h).mono ?_
  rintro e w' ⟨v', rfl, hm⟩
  obtain ⟨g, off, cap, hv, _, _, _⟩ := hm.own.at h.pos
  subst hv
  obtain ⟨cur, fz, ho⟩ := Own.typ hm.own (b := g) rfl
  exact ⟨g, off, cap, rfl, hm.own, hm.new g rfl, hm.gr, _, ho⟩
def preZ (L : List Pr) (k : Nat) : List Pr := List.replicate k pr0 ++ L.drop k
theorem preZ_zero (L : List Pr) : preZ L 0 = L := by simp [preZ]
theorem preZ_length {L : List Pr} {k : Nat} (h : k ≤ L.length) : (preZ L k).length = L.length := by simp [preZ]; omega
theorem preZ_get {L : List Pr} {k : Nat} (h : k < L.length) : (preZ L k)[k]? = L[k]? := by
  unfold preZ
  rw [List.getElem?_append_right (by simp), List.length_replicate, Nat.sub_self, List.getElem?_drop, Nat.add_zero]
theorem preZ_step {L : List Pr} {k : Nat} (h : k < L.length) : (preZ L k).set k pr0 = preZ L (k + 1) := by
  unfold preZ
  rw [List.set_append_right _ _ (by simp), List.length_replicate, Nat.sub_self, List.drop_eq_getElem_cons h, List.set_cons_zero, List.replicate_succ', List.append_assoc]
  rfl

end Go.Proofs.Ytljlbdbgocohlaa
