/- The walk of ParseLines. -/
import Derived.Test.YtgpfjcogaheopaaPX
import Derived.BigQuiet
import Derived.Deep.CutBlock
import Derived.Deep.DeepCutAuto
import Derived.Test.YtgpfjcogaheopaaQI
namespace Go.Proofs.Ytgpfjcogaheopaa
open Go.RowKit Lx
set_option maxRecDepth 100000

theorem last_at (l : List UInt8) (h : l ≠ []) : ∃ hi : l.length - 1 < l.length, l[l.length - 1] = l.getLastD 0 := by
  refine ⟨by have := List.length_pos_iff.2 h; omega, ?_⟩
  rw [← List.getLast_eq_getElem h, List.getLastD_eq_getLast?, List.getLast?_eq_some_getLast h]
  rfl
theorem last_nd {av : Nat → Prop} {w : World} {v : Value} {s : List Nd} {n : Nd} (h : NdS av w v (s ++ [n])) : ∃ g off cap, v = .slice (some ⟨g, off, none⟩) (s.length + 1) cap ∧ g < w.heap.size ∧ w.cell? ⟨g, off + s.length * 8, none⟩ = some (.int .i64 n.kind) := by
  obtain ⟨g, off, cap, hv, _, hg, hc⟩ := h.cells (by simp)
  rw [List.length_append, List.length_singleton] at hv
  refine ⟨g, off, cap, hv, hg, ?_⟩
  obtain ⟨a, b, r, p, k, _, hj⟩ := hc s.length (by simp)
  have := hj 0 (by omega)
  rw [Nat.add_zero] at this
  rw [this]
  simp [ndCells]
set_option maxHeartbeats 8000000 in
theorem lines_any (a b : List UInt8) (w : World) (hma : a.length ≤ 9223372036854775807) (hmb : b.length ≤ 9223372036854775807) : Calls Try.prog 6 #[sv a, sv b] w fun e w' => e = .returned (.bool true) ∧ w.grownBy w' none := by
  have Hs := hide (fun W => shown_any W)
  have hsa := sz a
  have hsb := sz b
  by_cases hbig : 1000 < a.length ∨ 1000 < b.length
  · unfold sv
    by_cases h1 : 1000 < a.length
    · have q1 : decide ((1000 : Int) < (a.length : Int)) = true := decide_eq_true (by omega)
      go_enter Try.func6, Try.ntmps6
      go_wp2_with fail
      refine (Hs.out _).mono ?_
      rintro e w1 ⟨rfl, g1⟩
      have G1 := hide g1
      clear g1
      go_wp2_with fail
      go_ret
      exact ⟨rfl, G1.out⟩
    · have q1 : decide ((1000 : Int) < (a.length : Int)) = false := decide_eq_false (by omega)
      have q2 : decide ((1000 : Int) < (b.length : Int)) = true := decide_eq_true (by omega)
      go_enter Try.func6, Try.ntmps6
      go_wp2_with fail
      refine (Hs.out _).mono ?_
      rintro e w1 ⟨rfl, g1⟩
      have G1 := hide g1
      clear g1
      go_wp2_with fail
      go_ret
      exact ⟨rfl, G1.out⟩
  · have q1 : decide ((1000 : Int) < (a.length : Int)) = false := decide_eq_false (by omega)
    have q2 : decide ((1000 : Int) < (b.length : Int)) = false := decide_eq_false (by omega)
    have hl : a.length + b.length ≤ 2000 := by omega
    have hal : a.length ≤ 1000 := by omega
    obtain ⟨s, hs⟩ : ∃ s, a ++ 10 :: b = s := ⟨_, rfl⟩
    have hsl : s.length = a.length + 1 + b.length := by rw [← hs]; simp; omega
    have e1 : ByteArray.mk a.toArray ++ ByteArray.mk #[10] = ⟨(a ++ [10]).toArray⟩ := cat_ba a [10]
    have e2 : ByteArray.mk (a ++ [10]).toArray ++ ByteArray.mk b.toArray = ⟨s.toArray⟩ := by rw [cat_ba, ← hs]; simp
    obtain ⟨c, hc⟩ : ∃ c, a ++ [10] = c := ⟨_, rfl⟩
    have hcl : c.length = a.length + 1 := by rw [← hc]; simp
    have hsc := sz c
    rw [hc] at e1 e2
    have HPA := hide (fun W => parse_any a W (by omega))
    have HPB := hide (fun W => parse_any b W (by omega))
    have HPC := hide (fun W => parse_any s W (by omega))
    unfold ParsePost sv at HPA HPB HPC
    have HL := hide (lines_say (a := a) (b := b) hl)
    have HN := hide (show (parseF []).ns = [] by decide)
    have HA0 := hide (fun h : a = [] => (show (parseF a).ns = [] by rw [h]; exact HN.out))
    rw [hs] at HL
    obtain ⟨A, hA⟩ : ∃ A, parseF a = A := ⟨_, rfl⟩
    obtain ⟨B, hB⟩ : ∃ B, parseF b = B := ⟨_, rfl⟩
    obtain ⟨C, hC⟩ : ∃ C, parseF s = C := ⟨_, rfl⟩
    have HFW := hide (And.intro (parse_few a) (And.intro (parse_few b) (parse_few s)))
    rw [hA] at HFW
    rw [hB] at HFW
    rw [hC] at HFW
    rw [hA] at HPA HL HA0
    rw [hB] at HPB HL
    rw [hC] at HPC HL
    have E1 := hide e1
    have E2 := hide e2
    have HSZ := hide (And.intro hcl (And.intro hsc (And.intro hsa hsb)))
    clear hA hB hC hs hsl e1 e2 hc hcl hsc HN hbig
    unfold sv
    go_enter Try.func6, Try.ntmps6
    go_wp2_with fail
    refine (Hs.out _).mono ?_
    rintro e w1 ⟨rfl, g1⟩
    have G1 := hide g1
    clear g1
    go_wp2_with fail
    refine (HPA.out _).mono ?_
    rintro e w2 ⟨v, rfl, hnd, _, g2⟩
    have G2 := hide (none_trans G1.out g2)
    obtain ⟨cs, hown, _⟩ := hnd
    obtain ⟨va, ca, rfl, _, _⟩ := hown.form
    obtain ⟨LA, hLA⟩ : ∃ L, A.ns.length = L := ⟨_, rfl⟩
    simp only [hLA]
    clear hown g2
    go_wp2_with fail
    refine (HPB.out _).mono ?_
    rintro e w3 ⟨v, rfl, hnd, _, g3⟩
    have G3 := hide (none_trans G2.out g3)
    obtain ⟨cs, hown, _⟩ := hnd
    obtain ⟨vb, cb, rfl, _, _⟩ := hown.form
    obtain ⟨LB, hLB⟩ : ∃ L, B.ns.length = L := ⟨_, rfl⟩
    simp only [hLB]
    clear hown g3
    go_wp2_with (first | (refine wpList_concat ⟨a.toArray⟩ ⟨#[10]⟩ rfl rfl (by rw [HSZ.out.2.2.1]; show _ + 1 ≤ _; omega) ?_; rw [E1.out]) | (refine wpList_concat ⟨c.toArray⟩ ⟨b.toArray⟩ rfl rfl (by rw [HSZ.out.2.1, HSZ.out.1, HSZ.out.2.2.2]; omega) ?_; rw [E2.out]))
    refine (HPC.out _).mono ?_
    rintro e w4 ⟨v, rfl, hnd, _, g4⟩
    have G4 := hide (none_trans G3.out g4)
    have HND := hide hnd
    obtain ⟨cs, hown, _⟩ := hnd
    obtain ⟨vc, cc, hv, _, _⟩ := hown.form
    obtain ⟨LC, hLC⟩ : ∃ L, C.ns.length = L := ⟨_, rfl⟩
    rw [hLC] at hv
    clear hown g4
    have head : ∀ (p : Prop), True := fun _ => trivial
    clear head
    by_cases hea : A.e = 0
    rotate_left
    · have q3 : (A.e != 0) = true := by simpa using hea
      subst hv
      go_wp2_with fail
      go_ret
      exact ⟨rfl, G4.out⟩
    simp only [hea]
    by_cases heb : B.e = 0
    rotate_left
    · have q3 : (B.e != 0) = true := by simpa using heb
      subst hv
      go_wp2_with fail
      go_ret
      exact ⟨rfl, G4.out⟩
    simp only [heb]
    by_cases hla : LA = 0
    · subst hla
      subst hv
      go_wp2_with fail
      go_ret
      exact ⟨rfl, G4.out⟩
    by_cases hlb : LB = 0
    · have q3 : ((LA : Int) == 0) = false := by rw [beq_eq_false_iff_ne]; omega
      subst hlb
      subst hv
      go_wp2_with fail
      go_ret
      exact ⟨rfl, G4.out⟩
    have hbA : (LA : Int) ≤ 300 := by have := HFW.out.1; omega
    have hbB : (LB : Int) ≤ 300 := by have := HFW.out.2.1; omega
    have q3 : ((LA : Int) == 0) = false := by rw [beq_eq_false_iff_ne]; omega
    have q4 : ((LB : Int) == 0) = false := by rw [beq_eq_false_iff_ne]; omega
    have hna : A.ns ≠ [] := by intro h; rw [h] at hLA; exact hla hLA.symm
    have hnb : B.ns ≠ [] := by intro h; rw [h] at hLB; exact hlb hLB.symm
    have hane : a ≠ [] := fun h => hna (HA0.out h)
    obtain ⟨hat1, hat2⟩ := last_at a hane
    have hat : (ByteArray.mk a.toArray)[a.length - 1]'(by rw [sz]; exact hat1) = a.getLastD 0 := (str_at' a _ hat1).trans hat2
    have hpos : 0 < a.length := List.length_pos_iff.2 hane
    obtain ⟨K, hK⟩ : ∃ K, a.length - 1 = K := ⟨_, rfl⟩
    have hKL : (a.length : Int) - 1 = (K : Int) := by omega
    obtain ⟨z, hz⟩ : ∃ z, a.getLastD 0 = z := ⟨_, rfl⟩
    rw [hz] at hat HL
    have hatK : ∀ h, (ByteArray.mk a.toArray)[K]'h = z := by rw [← hK]; exact fun _ => hat
    have hKs : (K : Int) < (ByteArray.mk a.toArray).size := by rw [hsa]; omega
    have hib : (0 : Int) ≤ K ∧ (K : Int) < (a.length : Int) := by omega
    have HNA := hide hna
    have HNB := hide hnb
    have hpos2 : (1 : Int) ≤ (a.length : Int) := by omega
    have hlenb : (a.length : Int) ≤ 1000 := by omega
    clear hna hnb hane hat hat1 hat2 hz hK
    by_cases hz : z = 92
    · subst hz
      subst hv
      go_wp2_with fail
      go_ret
      exact ⟨rfl, G4.out⟩
    have q5 : ((z.toNat : Int) == 92) = false := by
      rw [beq_eq_false_iff_ne]
      intro h
      exact hz (UInt8.toNat_inj.1 (by show z.toNat = 92; omega))
    rcases HL.out hz HNA.out HNB.out with h12 | ⟨h0, s', n, hns, hk6, hb1, hb2⟩
    · simp only [h12]
      subst hv
      by_cases hsum : LA + LB < 295
      · have q6 : decide ((LA : Int) + (LB : Int) < 295) = true := decide_eq_true (by omega)
        go_wp2_with fail
        all_goals (go_ret; exact ⟨rfl, G4.out⟩)
      · have q6 : decide ((LA : Int) + (LB : Int) < 295) = false := decide_eq_false (by omega)
        go_wp2_with fail
        all_goals (go_ret; exact ⟨rfl, G4.out⟩)
    · have hnd := HND.out
      rw [hns] at hnd
      obtain ⟨g, off, cap, hv2, hg, hcell⟩ := last_nd hnd
      rw [hLA] at hb1 hb2
      rw [hLB] at hb2
      obtain ⟨M, hM⟩ : ∃ M, s'.length = M := ⟨_, rfl⟩
      rw [hM] at hb1 hb2 hcell hv2
      obtain ⟨LD, hLD⟩ : ∃ L, M + 1 = L := ⟨_, rfl⟩
      rw [hLD] at hv2 hb1 hb2
      rw [hk6] at hcell
      have hMi : (LD : Int) - 1 = (M : Int) := by omega
      have hbD : (LD : Int) ≤ 300 := by
        have := HFW.out.2.2
        rw [hns, List.length_append, List.length_singleton, hM] at this
        omega
      have q6 : ((LD : Int) == 0) = false := by rw [beq_eq_false_iff_ne]; omega
      have q7 : decide ((LA : Int) ≤ (LD : Int)) = true := decide_eq_true (by omega)
      have q8 : decide ((LD : Int) ≤ (LA : Int) + (LB : Int) + 1) = true := decide_eq_true (by omega)
      have hib3 : (0 : Int) ≤ M ∧ (M : Int) < (LD : Int) := by omega
      simp only [h0]
      clear hv
      subst hv2
      clear hnd hns hM hLD h0 hk6
      by_cases hsum : LA + LB < 295
      · have q9 : decide ((LA : Int) + (LB : Int) < 295) = true := decide_eq_true (by omega)
        go_wp2_with fail

        all_goals (go_ret; exact ⟨rfl, G4.out⟩)
      · have q9 : decide ((LA : Int) + (LB : Int) < 295) = false := decide_eq_false (by omega)
        go_wp2_with fail
        all_goals (go_ret; exact ⟨rfl, G4.out⟩)

end Go.Proofs.Ytgpfjcogaheopaa
