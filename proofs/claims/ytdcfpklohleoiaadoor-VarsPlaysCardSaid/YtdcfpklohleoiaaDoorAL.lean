/- The arguments of these laws, opened: a slice of texts, a slice of steps. -/
import Derived.Test.YtdcfpklohleoiaaDoorZB
import Derived.Test.YtdcfpklohleoiaaDoorOpen
import Derived.SliceStrings
import Derived.ChangeMaps5
namespace Go.Proofs.YtdcfpklohleoiaaDoor
open Go.ChangeShapes Go.WideShapes Go.ChangeAt Go.RowKit Go.Deep

theorem weightsAll_mem {H : Type} {P : Program} {e : TypeId} {n : Nat} {d : DataW H} : ∀ {l : List (DataW H)}, d ∈ l → n ∈ d.weights P e → n ∈ DataW.weightsAll P e l
  | x :: l, hd, hn => by
    simp only [DataW.weightsAll, List.mem_append]
    rcases List.mem_cons.1 hd with rfl | hd
    · exact .inl hn
    · exact .inr (weightsAll_mem hd hn)
section
variable {H : Type} {enc : TypeId × Value → H} {W : World} {v : Value} {d : DataW H} {p : List MemPlace}
theorem strl_of_trod (hf : DataW.Trod enc Tryd.prog W 0 (fun _ => true) true 22 v d p) (hlt : ∀ x ∈ p, x.block < W.heap.size) (hv : ∃ a len cap, v = .slice a len cap) (hsz : ∀ n ∈ d.weights Tryd.prog 22, n ≤ reachBytes) :
    ∃ a cap, ∃ ss : List (List UInt8), v = .slice a ss.length cap ∧ ss.length ≤ cap ∧ ss.length ≤ 9223372036854775807 ∧ StrL W a ss ∧ ∀ s ∈ ss, s.length ≤ 140737488355328 := by
  obtain ⟨a0, len0, cap0, rfl⟩ := hv
  obtain ⟨fuel, hf⟩ := hf
  rcases open_strings Tryd.underlying22 Tryd.underlying9 (by kernel_rfl) hf with ⟨hcs, hx⟩ | ⟨a, len, cap, ss, hcs, _, hl, hm, hz, hx, hcell, hws⟩
  · simp [Value.cells] at hcs
    obtain ⟨rfl, rfl, rfl⟩ := hcs
    exact ⟨none, 0, [], rfl, Nat.le_refl _, by simp, fun i h => absurd h (by simp), by simp⟩
  · simp [Value.cells] at hcs
    obtain ⟨rfl, rfl, rfl⟩ := hcs
    unfold maxLen at hm
    simp only [if_true] at hz
    have hd : d = _ := congrArg Prod.fst hx
    have hlen : ((ss.take len0).map fun s => s.data.toList).length = len0 := by rw [List.length_map, List.length_take]; omega
    refine ⟨some a, cap0, (ss.take len0).map fun s => s.data.toList, by rw [hlen], by rw [hlen]; exact hl, by rw [hlen]; omega, fun i h => ?_, fun s hs => ?_⟩
    · rw [hlen] at h
      obtain ⟨b, off, rfl⟩ := addr_plain (hcell 0 (by omega))
      have hi := hcell i (by omega)
      rw [Addr.add_lit] at hi
      refine ⟨b, off, rfl, ?_, ?_⟩
      · have hx' : p = _ := congrArg Prod.snd hx
        refine hlt (MemPlace.cell b off) ?_
        rw [hx']
        simp [MemPlace.row]
        omega
      · rw [hi, List.getD_eq_getElem?_getD, List.getElem?_eq_getElem (by omega)]
        simp [sv]
    · obtain ⟨s0, hs0, rfl⟩ := List.mem_map.1 hs
      have h1 : s0.data.toList.length ∈ d.weights Tryd.prog 22 := by
        rw [hd]
        simp only [DataW.weights, Tryd.underlying22, List.mem_cons, List.mem_append]
        refine .inr (.inl (weightsAll_mem (d := .lit (.string s0.data.toList)) (by unfold strs; exact List.mem_map.2 ⟨s0, hs0, rfl⟩) (by simp [DataW.weights])))
      have h2 := hsz _ h1
      have h3 := reachBytes_lt
      omega
theorem opl_of_trod (hf : DataW.Trod enc Tryd.prog W 0 (fun _ => true) true 23 v d p) (hlt : ∀ x ∈ p, x.block < W.heap.size) (hv : ∃ a len cap, v = .slice a len cap) (hsz : ∀ n ∈ d.weights Tryd.prog 23, n ≤ reachBytes) :
    ∃ a cap, ∃ os : List OpV, v = .slice a os.length cap ∧ os.length ≤ 9223372036854775807 ∧ OpL W a os ∧ ∀ o ∈ os, o.n.length ≤ 140737488355328 ∧ o.v.length ≤ 140737488355328 ∧ -9223372036854775808 ≤ o.k ∧ o.k ≤ 9223372036854775807 := by
  obtain ⟨a0, len0, cap0, rfl⟩ := hv
  obtain ⟨fuel, hf⟩ := hf
  rcases open_slice_fields Tryd.underlying23 Tryd.underlying32 (by kernel_rfl) (by kernel_rfl) hf with ⟨hcs, hx⟩ | ⟨a, len, cap, m, D, Pl, hcs, _, hl, hm, hmm, hx, hi⟩
  · simp [Value.cells] at hcs
    obtain ⟨rfl, rfl, rfl⟩ := hcs
    exact ⟨none, 0, [], rfl, by simp, fun i h => absurd h (by simp), by simp⟩
  · simp [Value.cells] at hcs
    obtain ⟨rfl, rfl, rfl⟩ := hcs
    simp only [if_true] at hmm
    subst hmm
    unfold maxLen at hm
    have hd : d = _ := congrArg Prod.fst hx
    have each : ∀ i, i < len0 → ∃ o : OpV, (∃ b off, a = ⟨b, off, none⟩ ∧ b < W.heap.size ∧ W.cell? ⟨b, off + i * 5, none⟩ = some (.int .i64 o.k) ∧ W.cell? ⟨b, off + i * 5 + 1, none⟩ = some (.string ⟨o.n.toArray⟩) ∧ W.cell? ⟨b, off + i * 5 + 2, none⟩ = some (.string ⟨o.v.toArray⟩) ∧ W.cell? ⟨b, off + i * 5 + 3, none⟩ = some (.bool o.a) ∧ W.cell? ⟨b, off + i * 5 + 4, none⟩ = some (.bool o.b)) ∧
        (o.n.length ≤ 140737488355328 ∧ o.v.length ≤ 140737488355328 ∧ -9223372036854775808 ≤ o.k ∧ o.k ≤ 9223372036854775807) := by
      intro i h
      obtain ⟨_, _, _, _, _, h0⟩ := hi 0 (by omega)
      obtain ⟨v0, y0, c0, _, _⟩ := h0 0 _ rfl
      obtain ⟨b, off, rfl⟩ := addr_plain (by simpa using c0)
      obtain ⟨ys, n, hD, _, _, hcell⟩ := hi i (by omega)
      obtain ⟨u0, z0, e0, y0', t0⟩ := hcell 0 _ rfl
      obtain ⟨u1, z1, e1, y1', t1⟩ := hcell 1 _ rfl
      obtain ⟨u2, z2, e2, y2', t2⟩ := hcell 2 _ rfl
      obtain ⟨u3, z3, e3, y3', t3⟩ := hcell 3 _ rfl
      obtain ⟨u4, z4, e4, y4', t4⟩ := hcell 4 _ rfl
      obtain ⟨x0, q0, r0, w0⟩ := DataW.trod_int Tryd.underlying3 t0
      obtain ⟨x1, q1, r1, w1⟩ := DataW.trod_string Tryd.underlying9 t1
      obtain ⟨x2, q2, r2, w2⟩ := DataW.trod_string Tryd.underlying9 t2
      obtain ⟨x3, q3, r3⟩ := DataW.trod_bool Tryd.underlying4 t3
      obtain ⟨x4, q4, r4⟩ := DataW.trod_bool Tryd.underlying4 t4
      simp only [List.cons.injEq, and_true] at q0 q1 q2 q3 q4
      subst q0 q1 q2 q3 q4
      rw [Addr.add_lit] at e0 e1 e2 e3 e4
      have hb0 := Go.bounds_i64 w0
      have hmem : D i ∈ (List.range len0).map D := List.mem_map.2 ⟨i, List.mem_range.2 h, rfl⟩
      have hfs : (Tryd.prog.underlying 32) = some (.struct _) := Tryd.underlying32
      have hwt : ∀ j s, ((j = 1 ∧ s = x1) ∨ (j = 2 ∧ s = x2)) → s.data.toList.length ≤ reachBytes := by
        intro j s hj
        refine hsz _ ?_
        rw [hd]
        simp only [DataW.weights, Tryd.underlying23, List.mem_cons, List.mem_append]
        refine .inr (.inl (weightsAll_mem hmem ?_))
        rw [hD]
        simp only [DataW.weights, Tryd.underlying32]
        refine DataW.weights_mem_each (j := j) (t := 9) (d := .lit (.string s.data.toList)) ?_ ?_ _ (by simp [DataW.weights])
        · rcases hj with ⟨rfl, _⟩ | ⟨rfl, _⟩ <;> rfl
        · rcases hj with ⟨rfl, rfl⟩ | ⟨rfl, rfl⟩
          · rw [List.getElem?_map, y1', r1]; rfl
          · rw [List.getElem?_map, y2', r2]; rfl
      have h3 := reachBytes_lt
      have l1 := hwt 1 x1 (.inl ⟨rfl, rfl⟩)
      have l2 := hwt 2 x2 (.inr ⟨rfl, rfl⟩)
      refine ⟨⟨x0, x1.data.toList, x2.data.toList, x3, x4⟩, ⟨b, off, rfl, ?_, by simpa using e0, by simpa [Nat.add_assoc] using e1, by simpa [Nat.add_assoc] using e2, by simpa [Nat.add_assoc] using e3, by simpa [Nat.add_assoc] using e4⟩, by show x1.data.toList.length ≤ _; omega, by show x2.data.toList.length ≤ _; omega, by simpa using hb0.1, by simpa using hb0.2⟩
      have hx' : p = _ := congrArg Prod.snd hx
      refine hlt (MemPlace.cell b off) ?_
      rw [hx']
      refine List.mem_append_left _ ?_
      simp [MemPlace.row]
      omega
    let F : Nat → OpV := fun i => if h : i < len0 then Classical.choose (each i h) else ⟨0, [], [], false, false⟩
    have hF : ∀ i (h : i < len0), F i = Classical.choose (each i h) := fun i h => dif_pos h
    have hlen : ((List.range len0).map F).length = len0 := by simp
    refine ⟨some a, m, (List.range len0).map F, by rw [hlen], by rw [hlen]; omega, fun i h => ?_, fun o ho => ?_⟩
    · rw [hlen] at h
      have hg : ((List.range len0).map F)[i]'(by rw [hlen]; exact h) = Classical.choose (each i h) := by
        rw [List.getElem_map, List.getElem_range]
        exact hF i h
      obtain ⟨b, off, rfl, rest⟩ := (Classical.choose_spec (each i h)).1
      refine ⟨b, off, rfl, ?_⟩
      rw [hg]
      exact rest
    · obtain ⟨i, hi2, rfl⟩ := List.mem_map.1 ho
      have h := List.mem_range.1 hi2
      rw [hF i h]
      exact (Classical.choose_spec (each i h)).2
end

end Go.Proofs.YtdcfpklohleoiaaDoor
