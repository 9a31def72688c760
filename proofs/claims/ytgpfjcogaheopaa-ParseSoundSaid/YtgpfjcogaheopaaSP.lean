/- The walk of ParseSound. -/
import Derived.Test.YtgpfjcogaheopaaQF
import Derived.Test.YtgpfjcogaheopaaPX
import Derived.Test.YtgpfjcogaheopaaPK
import Derived.Test.YtgpfjcogaheopaaPerm
import Derived.BigQuiet
import Derived.Deep.CutBlock
import Derived.Deep.DeepCutAuto
import Derived.Deep.LoopGhost
namespace Go.Proofs.Ytgpfjcogaheopaa
open Go.RowKit Lx
set_option maxRecDepth 100000

theorem goK_len {bs : List Nat} (hb : ∀ i, i < bs.length → bs.getD i 0 ≤ i) : ∀ (ks : List Int) (f b : Nat), f ≤ bs.length → goK bs false ks f = some b → ks.length ≤ f
  | [], f, b, _, _ => Nat.zero_le _
  | k :: r, f, b, hf, h => by
    rw [goK, if_neg (by simp)] at h
    split at h
    · cases h
    · rename_i h2
      have h3 := hb (f - 1) (by omega)
      have := goK_len hb r _ b (by omega) h
      simp only [List.length_cons]
      omega
theorem WB.at_ {ns : List Nd} {bs : List Nat} (h : WB ns bs) : ∀ i (hi : i < ns.length), NdOk ns[i] ∧ goK (bs.take i) (ns[i].kind == 14) ns[i].kids.reverse i = some (bs.getD i 0) ∧ ∀ j, j < i → (bs.take i).getD j 0 ≤ j := by
  induction h with
  | nil => intro i hi; simp at hi
  | @snoc ns bs n b h hk hg ih =>
    intro i hi
    have hl := h.len
    rw [List.length_append, List.length_singleton] at hi
    by_cases hin : i < ns.length
    · obtain ⟨q1, q2, q3⟩ := ih i hin
      rw [List.getElem_append_left hin, List.take_append_of_le_length (by omega), getD_l _ _ _ (by omega)]
      exact ⟨q1, q2, q3⟩
    · obtain rfl : i = ns.length := by omega
      have he : (ns ++ [n])[ns.length] = n := by simp
      have ht : (bs ++ [b]).take ns.length = bs := by rw [← hl]; simp
      have hd : (bs ++ [b]).getD ns.length 0 = b := by rw [← hl]; exact getD_r _ _
      rw [he, ht, hd, ← hl]
      exact ⟨hk, hg, fun j hj => h.le j (by omega)⟩
theorem kid_few {n : Nd} {bs : List Nat} {i b : Nat} (hok : NdOk n) (hb : ∀ j, j < bs.length → bs.getD j 0 ≤ j) (hi : i = bs.length) (h : goK bs (n.kind == 14) n.kids.reverse i = some b) (hm : i ≤ 300) : n.kind = 14 ∨ n.kids.length ≤ 300 := by
  by_cases hk : n.kind = 14
  · exact .inl hk
  · rw [show (n.kind == 14) = false from beq_eq_false_iff_ne.2 hk] at h
    have := goK_len hb _ _ _ (by omega) h
    rw [List.length_reverse] at this
    exact .inr (by omega)
theorem kid_cases {n : Nd} (hok : NdOk n) (hf : n.kind = 14 ∨ n.kids.length ≤ 300) : (n.kind = 1 ∧ n.kids.length = 0) ∨ ((n.kind = 2 ∨ n.kind = 7 ∨ n.kind = 8 ∨ n.kind = 9) ∧ n.kids.length = 1) ∨ ((n.kind = 13 ∨ n.kind = 15) ∧ n.kids.length = 1) ∨ ((n.kind = 4 ∨ n.kind = 5 ∨ n.kind = 11 ∨ n.kind = 12) ∧ n.kids.length = 2) ∨ (n.kind = 3 ∧ 2 ≤ n.kids.length ∧ n.kids.length ≤ 400) ∨ (n.kind = 6 ∧ 1 ≤ n.kids.length ∧ n.kids.length ≤ 400) ∨ (n.kind = 10 ∧ 2 ≤ n.kids.length ∧ n.kids.length ≤ 3) ∨ (n.kind = 14 ∧ n.kids.length = n.pats.length) := by
  rcases hok with ⟨h1, h2, _⟩ | ⟨h1, h2, _⟩ | ⟨h1, h2, _⟩ | ⟨h1, h2, _⟩ | ⟨h1, h2, _⟩ | ⟨h1, h2, _⟩ | ⟨h1, h2, h3, _⟩ | ⟨h1, h2, _⟩
  · exact .inl ⟨h1, by rw [h2]; rfl⟩
  · exact .inr (.inl ⟨h1, h2⟩)
  · exact .inr (.inr (.inl ⟨h1, h2⟩))
  · exact .inr (.inr (.inr (.inl ⟨h1, h2⟩)))
  · exact .inr (.inr (.inr (.inr (.inl ⟨h1, h2, by omega⟩))))
  · exact .inr (.inr (.inr (.inr (.inr (.inl ⟨h1, h2, by omega⟩)))))
  · exact .inr (.inr (.inr (.inr (.inr (.inr (.inl ⟨h1, h2, h3⟩))))))
  · exact .inr (.inr (.inr (.inr (.inr (.inr (.inr ⟨h1, h2⟩))))))
theorem kid_class {n : Nd} (hok : NdOk n) (h1 : n.kind = 1 → n.sets.length + n.words.length + n.redirs.length ≤ 401) : (n.kind = 1 ∧ n.name = [] ∧ 0 < n.sets.length + n.words.length + n.redirs.length ∧ n.sets.length + n.words.length + n.redirs.length ≤ 401) ∨ (n.kind = 13 ∧ n.name ≠ []) ∨ (n.kind = 15 ∧ n.name ≠ []) ∨ (n.kind ≠ 1 ∧ n.kind ≠ 13 ∧ n.kind ≠ 15 ∧ n.name = []) := by
  rcases hok with ⟨h2, _, h3, h4⟩ | ⟨h2, _, h4⟩ | ⟨h2, _, h4⟩ | ⟨h2, _, h4⟩ | ⟨h2, _, h4⟩ | ⟨h2, _, h4⟩ | ⟨h2, _, _, h4⟩ | ⟨h2, _, h4⟩
  · exact .inl ⟨h2, h4, h3, h1 h2⟩
  all_goals first
    | exact .inr (.inr (.inr ⟨by omega, by omega, by omega, h4⟩))
    | (rcases h2 with h2 | h2
       · exact .inr (.inl ⟨h2, h4⟩)
       · exact .inr (.inr (.inl ⟨h2, h4⟩)))
def KidPost (n : Nd) (w : World) (e : Ending) (w' : World) : Prop := ∃ lo hi : Int, e = .returned (.tuple #[.int .i64 lo, .int .i64 hi]) ∧ lo ≤ (n.kids.length : Int) ∧ (n.kids.length : Int) ≤ hi ∧ w.grownBy w' none
set_option maxHeartbeats 4000000 in
theorem kids_run (kd : Int) (K NP : Nat) (nn : ByteArray) (ni : Bool) (a1 b1 r1 p1 k1 : Option Addr) (a2 a3 b2 b3 r2 r3 p3 k3 : Nat) (w : World)
    (h : (kd = 1 ∧ K = 0) ∨ ((kd = 2 ∨ kd = 7 ∨ kd = 8 ∨ kd = 9) ∧ K = 1) ∨ ((kd = 13 ∨ kd = 15) ∧ K = 1) ∨ ((kd = 4 ∨ kd = 5 ∨ kd = 11 ∨ kd = 12) ∧ K = 2) ∨ (kd = 3 ∧ 2 ≤ K ∧ K ≤ 400) ∨ (kd = 6 ∧ 1 ≤ K ∧ K ≤ 400) ∨ (kd = 10 ∧ 2 ≤ K ∧ K ≤ 3) ∨ (kd = 14 ∧ K = NP)) :
    Calls Try.prog 13 #[.agg #[.int .i64 kd, .string nn, .bool ni, .slice a1 a2 a3, .slice b1 b2 b3, .slice r1 r2 r3, .slice p1 NP p3, .slice k1 K k3]] w fun e w' => ∃ lo hi : Int, e = .returned (.tuple #[.int .i64 lo, .int .i64 hi]) ∧ lo ≤ (K : Int) ∧ (K : Int) ≤ hi ∧ w.grownBy w' none := by
  rcases h with ⟨rfl, h⟩ | ⟨rfl | rfl | rfl | rfl, h⟩ | ⟨rfl | rfl, h⟩ | ⟨rfl | rfl | rfl | rfl, h⟩ | ⟨rfl, h⟩ | ⟨rfl, h⟩ | ⟨rfl, h⟩ | ⟨rfl, h⟩
  all_goals
    have HH := hide h
    clear h
    go_enter Try.func13, Try.ntmps13
    go_wp2_with fail
    try (go_quiet (fail); go_wp2_with fail)
    go_ret2
    refine ⟨_, _, rfl, ?_, ?_, ?_⟩
    · have := HH.out; omega
    · have := HH.out; omega
    · first | exact only_alloc (only_refl w none) _ | exact only_drewN (only_alloc (only_refl w none) _) _

theorem own_grown {w w' : World} {e : TypeId} {size n k : Nat} {v : Value} {xs : List Value} (h : w.grownBy w' none) (ho : Own w e size v n xs k) : Own w' e size v n xs k :=
  ho.chg (S := fun _ => False) (Chg.of_grown h (fun k hk => by cases hk)) (fun _ _ h => h)
theorem only_chg {w a b : World} {S : Nat → Prop} (h : w.grownBy a none) (hc : Chg S a b) (hS : ∀ k, S k → w.heap.size ≤ k) : w.grownBy b none :=
  ((Chg.of_grown (S := fun k => w.heap.size ≤ k) h (fun k hk => by cases hk)).trans hc (fun i hi hs => hS i hs)).grown fun k hk hs => by omega
set_option maxHeartbeats 16000000 in
theorem sound_any (s : List UInt8) (w : World) (hm : s.length ≤ 9223372036854775807) : Calls Try.prog 4 #[sv s] w fun e w' => e = .returned (.bool true) ∧ w.grownBy w' none := by
  have Hs := hide (fun W => shown_any W)
  have HP := hide (fun W => parse_any s W hm)
  unfold ParsePost sv at HP
  have HY := hide (parse_says s)
  have HZ := hide (parseF_sz s)
  obtain ⟨P, hP⟩ : ∃ P, parseF s = P := ⟨_, rfl⟩
  rw [hP] at HP HY HZ
  clear hP
  have hsz := sz s
  have HSZ := hide hsz
  unfold sv
  go_enter Try.func4, Try.ntmps4
  go_wp2_with fail
  refine (Hs.out _).mono ?_
  rintro e w1 ⟨rfl, g1⟩
  have G1 := hide g1
  clear g1
  go_wp2_with fail
  refine (HP.out _).mono ?_
  rintro e w2 ⟨v, rfl, hnd, _, g2⟩
  have G2 := hide (none_trans G1.out g2)
  have HND := hide hnd
  obtain ⟨cs, hown, _⟩ := hnd
  obtain ⟨va, cap, rfl, hcp, _⟩ := hown.form
  obtain ⟨L, hL⟩ : ∃ L, P.ns.length = L := ⟨_, rfl⟩
  rw [hL] at hcp
  have HL := hide hL
  simp only [hL]
  clear hown g2 hL
  by_cases he : P.e = 0
  · obtain ⟨ts, _, hwh⟩ := HY.out.2 he
    obtain ⟨bs, hwb, hlast⟩ := hwh.wb
    have hfew : L ≤ 300 := by have := hwh.few; have := HL.out; omega
    have hbl : bs.length = L := by rw [hwb.len]; exact HL.out
    have HBL := hide hbl
    have HWB := hide hwb.at_
    have HLA := hide (show L = 0 ∨ bs.getD (L - 1) 0 = 0 by rcases hlast with h | h; exact .inl (by rw [← HL.out, h]; rfl); exact .inr (by rw [← HL.out]; exact h))
    simp only [he]
    clear he hwh hwb hlast hbl
    have HB0 := hide (Own.nil w2 3 1 0)
    have hq3 : decide ((300 : Int) < (L : Int)) = false := decide_eq_false (by omega)
    have HFEW := hide hfew
    have hLb : (L : Int) ≤ 300 := by omega
    go_wp2_with fail
    go_loopg [7, 8] L (fun g v7 v8 wr => ∃ i : Nat, v8 = .int .i64 i ∧ i ≤ L ∧ L - i ≤ g ∧ Own wr 3 1 v7 i ((bs.take i).map fun b : Nat => Value.int .i64 (b : Int)) 0 ∧ (∀ b, v7.ownBlock = some b → w2.heap.size ≤ b) ∧ w2.grownBy wr none)
    case atStart => exact ⟨0, rfl, Nat.zero_le _, Nat.le_refl _, by simpa using HB0.out, (fun b hb => by cases hb), only_refl _ _⟩
    case round =>
      obtain ⟨i, rfl, hi, hgi, hbo, hbn, hgr⟩ := hrel
      obtain ⟨G0, rfl⟩ : ∃ G0, G0 = gk := ⟨_, rfl⟩
      have HGI := hide hgi
      have HGR := hide hgr
      have HBO := hide hbo
      have HBN := hide hbn
      clear hgi hbn
      by_cases hlt : i < L
      · have q0 : decide ((i : Int) < (L : Int)) = true := decide_eq_true (by omega)
        have hnc := HND.out.cells (by have := HL.out; omega)
        obtain ⟨g, off, cap', hv, _, hg, hcs⟩ := hnc
        obtain ⟨n, hn⟩ : ∃ n, P.ns[i]'(by have := HL.out; omega) = n := ⟨_, rfl⟩
        obtain ⟨a, b, r, p, k, hna, hce⟩ := hcs i (by have := HL.out; omega)
        obtain ⟨hok, hgk, hble⟩ := HWB.out i (by have := HL.out; omega)
        have hsmall := HZ.out _ (List.getElem_mem (show i < P.ns.length by have := HL.out; omega))
        rw [hn] at hna hce hok hgk hsmall
        injection hv with hv1 hv2 hv3
        subst hv1
        subst hv3
        clear hv2
        obtain ⟨a1, a3, rfl, _, _⟩ := hna.sets.form
        obtain ⟨b1, b3, rfl, _, _⟩ := hna.words.form
        obtain ⟨r1, r3, rfl, _, _⟩ := hna.rds.form
        obtain ⟨ps, hpo, _⟩ := hna.pats
        obtain ⟨p1, p3, rfl, _, _⟩ := hpo.form
        have hkids := hna.kids
        unfold IntS at hkids
        obtain ⟨k1, k3, rfl, hkc, hkm⟩ := hkids.form
        obtain ⟨nS, hS⟩ : ∃ m, n.sets.length = m := ⟨_, rfl⟩
        obtain ⟨nW, hW⟩ : ∃ m, n.words.length = m := ⟨_, rfl⟩
        obtain ⟨nR, hR⟩ : ∃ m, n.redirs.length = m := ⟨_, rfl⟩
        obtain ⟨nP, hPl⟩ : ∃ m, n.pats.length = m := ⟨_, rfl⟩
        obtain ⟨K, hK⟩ : ∃ m, n.kids.length = m := ⟨_, rfl⟩
        rw [hS, hW, hR, hPl, hK] at hce
        have cell := fun (j : Nat) (u : Value) (hj : j < 8) (hu : (ndCells n (.slice a1 nS a3) (.slice b1 nW b3) (.slice r1 nR r3) (.slice p1 nP p3) (.slice k1 K k3))[j]? = some u) => (old_cell hgr hg ((hce j hj).trans hu))
        have e0 : wr.cell? ⟨g, off + i * 8, none⟩ = some (.int .i64 n.kind) := cell 0 _ (by omega) rfl
        have e1 : wr.cell? ⟨g, off + i * 8 + 1, none⟩ = some (.string ⟨n.name.toArray⟩) := cell 1 _ (by omega) rfl
        have e2 : wr.cell? ⟨g, off + i * 8 + 2, none⟩ = some (.bool n.inn) := cell 2 _ (by omega) rfl
        have e3 : wr.cell? ⟨g, off + i * 8 + 3, none⟩ = some (.slice a1 nS a3) := cell 3 _ (by omega) rfl
        have e4 : wr.cell? ⟨g, off + i * 8 + 4, none⟩ = some (.slice b1 nW b3) := cell 4 _ (by omega) rfl
        have e5 : wr.cell? ⟨g, off + i * 8 + 5, none⟩ = some (.slice r1 nR r3) := cell 5 _ (by omega) rfl
        have e6 : wr.cell? ⟨g, off + i * 8 + 6, none⟩ = some (.slice p1 nP p3) := cell 6 _ (by omega) rfl
        have e7 : wr.cell? ⟨g, off + i * 8 + 7, none⟩ = some (.slice k1 K k3) := cell 7 _ (by omega) rfl
        have hg2 := Nat.lt_of_lt_of_le hg hgr.size
        have hib : (0 : Int) ≤ (i : Int) ∧ (i : Int) < (L : Int) := by omega
        obtain ⟨kd, hkd⟩ : ∃ m, n.kind = m := ⟨_, rfl⟩
        obtain ⟨nm, hnm⟩ : ∃ m, n.name = m := ⟨_, rfl⟩
        obtain ⟨nI, hnI⟩ : ∃ m, n.inn = m := ⟨_, rfl⟩
        rw [hkd] at e0
        rw [hnm] at e1
        rw [hnI] at e2
        have hKL : K ≤ 9223372036854775807 := by have := hkc; have := hK; unfold maxLen at hkm; omega
        have HOK := hide hok
        have HGK := hide hgk
        have HBLE := hide hble
        have HSM := hide hsmall
        have HKI := hide hkids
        have HN := hide (And.intro hS (And.intro hW (And.intro hR (And.intro hPl (And.intro hK (And.intro hkd hnm))))))
        have hLT := hide hlt
        clear hok hgk hble hsmall hkids hS hW hR hPl hK hkd hnm hnI hce cell hna hpo hcs hbo hn hlt hkc hkm
        have HCL := hide (by have := kid_class HOK.out HSM.out; obtain ⟨h1, h2, h3, h4, h5, h6, h7⟩ := HN.out; rw [h1, h2, h3, h6, h7] at this; exact this)
        have hil : i = (bs.take i).length := by have := HBL.out; have := hLT.out; simp; omega
        have HKR := hide (by have := kid_cases HOK.out (kid_few HOK.out (fun j hj => HBLE.out j (by omega)) hil HGK.out (by have := HFEW.out; have := hLT.out; omega)); obtain ⟨h1, h2, h3, h4, h5, h6, h7⟩ := HN.out; rw [h4, h5, h6] at this; exact this)
        have HKL := hKL
        clear hil
        go_upto_region 12 with (fail)
        have hB := Blk.new wr 33 #[.int .i64 kd, .string ⟨nm.toArray⟩, .bool nI, .slice a1 nS a3, .slice b1 nW b3, .slice r1 nR r3, .slice p1 nP p3, .slice k1 K k3]
        have hgw := only_alloc (only_refl wr none) (.cells #[.int .i64 kd, .string ⟨nm.toArray⟩, .bool nI, .slice a1 nS a3, .slice b1 nW b3, .slice r1 nR r3, .slice p1 nP p3, .slice k1 K k3] 33)
        obtain ⟨w4, hw4⟩ : ∃ w4, wr.alloc (.cells #[.int .i64 kd, .string ⟨nm.toArray⟩, .bool nI, .slice a1 nS a3, .slice b1 nW b3, .slice r1 nR r3, .slice p1 nP p3, .slice k1 K k3] 33) = w4 := ⟨_, rfl⟩
        obtain ⟨nb, hnb⟩ : ∃ nb, wr.heap.size = nb := ⟨_, rfl⟩
        rw [hw4, hnb] at hB
        rw [hw4] at hgw
        rw [hw4, hnb]
        have HNB := hide hnb
        have G4 := hide hgw
        have HBB := hide hB
        have y0 : w4.cell? ⟨nb, 0, none⟩ = some (.int .i64 kd) := Blk.cell hB 0
        have y1 : w4.cell? ⟨nb, 1, none⟩ = some (.string ⟨nm.toArray⟩) := Blk.cell hB 1
        have y2 : w4.cell? ⟨nb, 2, none⟩ = some (.bool nI) := Blk.cell hB 2
        have y3 : w4.cell? ⟨nb, 3, none⟩ = some (.slice a1 nS a3) := Blk.cell hB 3
        have y4 : w4.cell? ⟨nb, 4, none⟩ = some (.slice b1 nW b3) := Blk.cell hB 4
        have y5 : w4.cell? ⟨nb, 5, none⟩ = some (.slice r1 nR r3) := Blk.cell hB 5
        have y6 : w4.cell? ⟨nb, 6, none⟩ = some (.slice p1 nP p3) := Blk.cell hB 6
        have y7 : w4.cell? ⟨nb, 7, none⟩ = some (.slice k1 K k3) := Blk.cell hB 7
        clear hB hgw hw4 hnb e0 e1 e2 e3 e4 e5 e6 e7 hg2 hgr
        go_wp2_with fail
        refine (kids_run kd K nP ⟨nm.toArray⟩ nI a1 b1 r1 p1 k1 nS a3 nW b3 nR r3 p3 k3 w4 HKR.out).mono ?_
        rintro e w5 ⟨lo, hi', rfl, hlo, hhi, g5⟩
        have HB5 := hide (Blk.grown HBB.out g5 (by simp))
        have G5 := hide (none_trans G4.out g5)
        have y0 : w5.cell? ⟨nb, 0, none⟩ = some (.int .i64 kd) := Blk.cell HB5.out 0
        have y1 : w5.cell? ⟨nb, 1, none⟩ = some (.string ⟨nm.toArray⟩) := Blk.cell HB5.out 1
        have y3 : w5.cell? ⟨nb, 3, none⟩ = some (.slice a1 nS a3) := Blk.cell HB5.out 3
        have y4 : w5.cell? ⟨nb, 4, none⟩ = some (.slice b1 nW b3) := Blk.cell HB5.out 4
        have y5 : w5.cell? ⟨nb, 5, none⟩ = some (.slice r1 nR r3) := Blk.cell HB5.out 5
        have y7 : w5.cell? ⟨nb, 7, none⟩ = some (.slice k1 K k3) := Blk.cell HB5.out 7
        have ql : decide ((K : Int) < lo) = false := decide_eq_false (by omega)
        have qh : decide (hi' < (K : Int)) = false := decide_eq_false (by omega)
        clear g5
        go_upto_region 13 with (fail)
        go_cut [101] (fun v101 wx => v101 = .bool false ∧ wx = w5)
        case first =>
          rcases HCL.out with ⟨h1, h2, h3, h4⟩ | ⟨h1, h2⟩ | ⟨h1, h2⟩ | ⟨h1, h13, h15, h2⟩
          · have kq1 : (kd == 1) = true := beq_iff_eq.2 h1
            have kq13 : (kd == 13) = false := beq_eq_false_iff_ne.2 (by omega)
            have kq15 : (kd == 15) = false := beq_eq_false_iff_ne.2 (by omega)
            have qn : (nm == []) = true := by rw [h2]; rfl
            have qs : (((nS : Int) + (nW : Int) + (nR : Int)) == 0) = false := beq_eq_false_iff_ne.2 (by omega)
            have qb : ((nS : Int) + (nW : Int) + (nR : Int)) ≤ 401 := by omega
            have qb0 : (0 : Int) ≤ nS ∧ (0 : Int) ≤ nW ∧ (0 : Int) ≤ nR := by omega
            clear h1 h2 h3 h4
            go_wp2_with fail
            go_meet
            exact ⟨rfl, rfl⟩
          · have kq1 : (kd == 1) = false := beq_eq_false_iff_ne.2 (by omega)
            have kq13 : (kd == 13) = true := beq_iff_eq.2 h1
            have kq15 : (kd == 15) = false := beq_eq_false_iff_ne.2 (by omega)
            have qn : (nm == []) = false := beq_eq_false_iff_ne.2 h2
            clear h1 h2
            go_wp2_with fail
            go_meet
            exact ⟨rfl, rfl⟩
          · have kq1 : (kd == 1) = false := beq_eq_false_iff_ne.2 (by omega)
            have kq13 : (kd == 13) = false := beq_eq_false_iff_ne.2 (by omega)
            have kq15 : (kd == 15) = true := beq_iff_eq.2 h1
            have qn : (nm == []) = false := beq_eq_false_iff_ne.2 h2
            clear h1 h2
            go_wp2_with fail
            go_meet
            exact ⟨rfl, rfl⟩
          · have kq1 : (kd == 1) = false := beq_eq_false_iff_ne.2 (by omega)
            have kq13 : (kd == 13) = false := beq_eq_false_iff_ne.2 (by omega)
            have kq15 : (kd == 15) = false := beq_eq_false_iff_ne.2 (by omega)
            have qn : (nm == []) = true := by rw [h2]; rfl
            clear h1 h13 h15 h2
            go_wp2_with fail
            go_meet
            exact ⟨rfl, rfl⟩
        case rest =>
          obtain ⟨rfl, hwc⟩ := hcut
          subst hwc
          have hK0 : (0 : Int) ≤ (K : Int) := by omega
          have hKb : (K : Int) ≤ 9223372036854775807 := by omega
          clear y1 y3 y4 y5 ql qh hlo hhi
          have Y0 := hide y0
          have Y7 := hide y7
          go_wp2_with fail
          go_loopg [12, 13] K (fun g2 v12 v13 wx => ∃ r f : Nat, v13 = .int .i64 ((r : Int) - 1) ∧ r ≤ K ∧ r ≤ g2 ∧ v12 = .int .i64 f ∧ f ≤ i ∧ goK (bs.take i) (n.kind == 14) (n.kids.take r).reverse f = some (bs.getD i 0) ∧ wc.grownBy wx none)
          case atStart => exact ⟨K, i, rfl, Nat.le_refl _, Nat.le_refl _, rfl, Nat.le_refl _, by have h := HN.out.2.2.2.2.1; rw [← h, List.take_length]; exact HGK.out, only_refl _ _⟩
          case round =>
            obtain ⟨r, f, rfl, hr, hrg, rfl, hf, hgo, hgx⟩ := hrel
            have HGO := hide hgo
            have HGX := hide hgx
            have HRG := hide hrg
            have x0 := old_cell hgx (Blk.lt HB5.out) Y0.out
            have x7 := old_cell hgx (Blk.lt HB5.out) Y7.out
            clear hgo hrg y0 y7
            by_cases hr0 : r = 0
            · subst hr0
              have HFB := hide (show f = bs.getD i 0 by have := HGO.out; rw [List.take_zero, List.reverse_nil, goK] at this; injection this)
              rw [show (((0 : Nat) : Int) - 1) = -1 from rfl]
              have HGY := hide (none_trans HGR.out (none_trans G5.out hgx))
              have HBO2 := hide (own_grown (none_trans G5.out hgx) HBO.out)
              clear hgx x0 x7
              go_wp2_with (at_builtin; refine wpList_appAt 3 (.int .i64 0) 1 8 Try.underlying31 infoInt rfl _ i ((bs.take i).map fun b : Nat => Value.int .i64 (b : Int)) 0 _ 1 [.int .i64 (f : Int)] rfl rfl (Own.alloc HBO2.out _) (by omega) (srcI _ _ (f : Int) rfl) (by unfold maxLen; omega) (by omega) ?_; intro vA wA ho hc hnw _; (have HO := hide ho; have HC := hide hc; have HNW := hide hnw; clear ho hc hnw))
              go_roundg (G0 - 1)
              case rel =>
                refine ⟨i + 1, by go_num, by have := hLT.out; omega, by have := HGI.out; omega, ?_, ?_, ?_⟩
                · have := HO.out
                  have hti : (bs.take (i + 1)).map (fun b : Nat => Value.int .i64 (b : Int)) = (bs.take i).map (fun b : Nat => Value.int .i64 (b : Int)) ++ [.int .i64 (f : Int)] := by
                    have hib2 : i < bs.length := by have := HBL.out; have := hLT.out; omega
                    rw [List.take_succ_eq_append_getElem hib2, List.map_append, HFB.out, List.getD_eq_getElem?_getD, List.getElem?_eq_getElem hib2]
                    rfl
                  rw [hti]
                  exact this
                · intro b hb
                  rcases HNW.out b hb with h | h
                  · exact HBN.out b h
                  · have h1 := HGY.out.size
                    exact Nat.le_trans (only_alloc HGY.out (.cells #[.int .i64 (f : Int)] 3)).size h
                · exact only_chg (only_alloc HGY.out _) HC.out (fun k hk => HBN.out k hk)
              case measure => have := HGI.out; have := hLT.out; omega
            · obtain ⟨r, rfl⟩ : ∃ q, r = q + 1 := ⟨r - 1, by omega⟩
              have hkl : r < n.kids.length := by have := HN.out.2.2.2.2.1; omega
              obtain ⟨kk, hkk⟩ : ∃ kk, n.kids[r] = kk := ⟨_, rfl⟩
              have hst : (n.kids.take (r + 1)).reverse = kk :: (n.kids.take r).reverse := by
                rw [List.take_succ_eq_append_getElem hkl, List.reverse_append, List.reverse_singleton, hkk]
                rfl
              have HGO2 := hide (by have := HGO.out; rw [hst, goK] at this; exact this)
              obtain ⟨kg, ko, ck, hv, _, _, hkg, hkc⟩ := HKI.out.some_ (by omega)
              injection hv with hv1 hv2 hv3
              subst hv1
              subst hv3
              clear hv2
              have z7 : wr.cell? ⟨kg, ko + r, none⟩ = some (.int .i64 kk) := old_cell (none_trans HGR.out (none_trans G5.out hgx)) hkg (by
                have h0 := hkc r (by omega)
                rw [h0, List.getElem?_map, List.getElem?_eq_getElem hkl, hkk]
                rfl)
              rw [show (((r + 1 : Nat) : Int) - 1) = (r : Int) by omega]
              have hrb : (0 : Int) ≤ (r : Int) ∧ (r : Int) < (K : Int) := by omega
              have qr : decide ((0 : Int) ≤ (r : Int)) = true := decide_eq_true (by omega)
              have hkd := HN.out.2.2.2.2.2.1
              clear hst hkk hkc hr0 hkl
              by_cases hsk : kk = -1 ∧ (n.kind == 14) = true
              · obtain ⟨rfl, h14⟩ := hsk
                have HGO3 := hide (by have := HGO2.out; rw [if_pos ⟨rfl, h14⟩] at this; exact this)
                rw [hkd] at h14
                clear hkd hgx
                go_wp2_with fail
                go_roundg (gk - 1)
                case rel => exact ⟨r, f, rfl, by omega, by have := HRG.out; omega, rfl, hf, HGO3.out, HGX.out⟩
                case measure => have := HRG.out; omega
              · have h1 := HGO2.out
                rw [if_neg hsk] at h1
                have hne : ¬ (f = 0 ∨ kk ≠ (f : Int) - 1) := fun h => by rw [if_pos h] at h1; cases h1
                have HGO3 := hide (by have := h1; rw [if_neg hne] at this; exact this)
                obtain ⟨m, hm0⟩ : ∃ m, f - 1 = m := ⟨_, rfl⟩
                have hfm : (f : Int) - 1 = (m : Int) := by omega
                have hkm : kk = (m : Int) := by omega
                subst hkm
                have qf : ((f : Int) == 0) = false := beq_eq_false_iff_ne.2 (by omega)
                have qm : ((m : Int) == -1) = false := beq_eq_false_iff_ne.2 (by omega)
                have hmi : (0 : Int) ≤ (m : Int) ∧ (m : Int) < (i : Int) := by omega
                obtain ⟨bg, bo, bc, rfl, _, _, hbg, hbc⟩ := HBO.out.some_ (by omega)
                obtain ⟨f2, hf2⟩ : ∃ f2, (bs.take i).getD m 0 = f2 := ⟨_, rfl⟩
                have hf2i : f2 ≤ i := by have := HBLE.out m (by omega); omega
                have zb : wr.cell? ⟨bg, bo + m, none⟩ = some (.int .i64 f2) := old_cell (none_trans G5.out hgx) hbg (by
                  rw [hbc m (by omega), List.getElem?_map]
                  have hml : m < (bs.take i).length := by have := HBL.out; have := hLT.out; rw [List.length_take]; omega
                  rw [List.getD_eq_getElem?_getD, List.getElem?_eq_getElem hml] at hf2
                  rw [List.getElem?_eq_getElem hml, ← hf2]
                  rfl)
                rw [hm0, hf2] at HGO3
                clear hkd hgx h1 hne hsk hm0 hf2 hbc
                go_wp2_with fail
                go_roundg (gk - 1)
                case rel => exact ⟨r, f2, rfl, by omega, by have := HRG.out; omega, rfl, hf2i, HGO3.out, HGX.out⟩
                case measure => have := HRG.out; omega
      · obtain rfl : i = L := by omega
        have q0 : decide ((i : Int) < (i : Int)) = false := decide_eq_false (by omega)
        have HR := hide (none_trans G2.out hgr)
        by_cases h0 : i = 0
        · have ql : ((i : Int) == 0) = true := beq_iff_eq.2 (by omega)
          clear hbo hgr
          go_wp2_with fail
          go_ret
          exact ⟨rfl, HR.out⟩
        · have ql : ((i : Int) == 0) = false := beq_eq_false_iff_ne.2 (by omega)
          obtain ⟨bg, bo, bc, rfl, _, _, hbg, hbc⟩ := hbo.some_ (by omega)
          obtain ⟨m, hm0⟩ : ∃ m, i - 1 = m := ⟨_, rfl⟩
          have hfm : (i : Int) - 1 = (m : Int) := by omega
          have hmi : (0 : Int) ≤ (m : Int) ∧ (m : Int) < (i : Int) := by omega
          have zb : wr.cell? ⟨bg, bo + m, none⟩ = some (.int .i64 0) := by
            have hl : bs.getD m 0 = 0 := by rcases HLA.out with h | h; exact absurd h h0; exact (by rw [← hm0]; exact h)
            have hml : m < bs.length := by have := HBL.out; omega
            rw [hbc m (by omega), List.getElem?_map, List.getElem?_take, if_pos (by omega), List.getElem?_eq_getElem hml]
            rw [List.getD_eq_getElem?_getD, List.getElem?_eq_getElem hml] at hl
            show some (Value.int .i64 ((bs[m] : Nat) : Int)) = _
            rw [show bs[m] = 0 from hl]
            rfl
          clear hbo hgr hbc hm0
          go_wp2_with fail
          go_ret
          exact ⟨rfl, HR.out⟩
  · obtain ⟨hns, ha0, hal⟩ := HY.out.1 he
    have hL0 : L = 0 := by rw [← HL.out, hns]; rfl
    subst hL0
    have qe : (P.e == 0) = false := beq_eq_false_iff_ne.2 he
    obtain ⟨A, hA⟩ : ∃ A, P.a = A := ⟨_, rfl⟩
    obtain ⟨N, hN⟩ : ∃ N, s.length = N := ⟨_, rfl⟩
    rw [hA] at ha0 hal
    rw [hN] at hal hsz
    simp only [hA]
    have qa : decide ((0 : Int) ≤ A) = true := decide_eq_true ha0
    have qb : decide (A ≤ (N : Int)) = true := decide_eq_true hal
    clear he hns hA
    go_wp2_with fail
    go_ret
    exact ⟨rfl, G2.out⟩

end Go.Proofs.Ytgpfjcogaheopaa
