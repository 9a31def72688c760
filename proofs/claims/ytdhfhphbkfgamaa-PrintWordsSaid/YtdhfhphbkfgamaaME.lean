/- Several texts in one. -/
import Derived.Test.YtdhfhphbkfgamaaMD
import Derived.Shelf.Strings.OnBuilder
section
/- The printer: elif. -/
namespace Go.Proofs.Ytdhfhphbkfgamaa
open Go.RowKit Lx
set_option maxRecDepth 100000

set_option maxHeartbeats 4000000 in
theorem elif_any (n0 pb m : Nat) (l : List Nd) (hcx : Cx l) (hm : m ≤ l.length) (b : List UInt8) (n : Nd) (x1 x2 x3 x4 x5 : Value) (w : World) (hk : KidsLt n m) (h : PrIs n0 w pb l b) (hn : NdR n0 w x1 x2 x3 x4 x5 n) :
    Calls Try.prog 35 #[.pointer (some ⟨pb, 0, none⟩), .agg (ndCells n x1 x2 x3 x4 x5).toArray] w fun e w' => e = .returned (.bool (elifB l n)) ∧ PrIs n0 w' pb l b ∧ PF n0 w w' := by
  obtain ⟨a1, c1, a2, c2, a3, c3, a4, c4, a, kcap, rfl, rfl, rfl, rfl, rfl⟩ := hn.forms
  have hkl := hk.1
  have hB := Blk.new w 35 #[.int .i64 n.kind, .string ⟨n.name.toArray⟩, .bool n.inn, .slice a1 n.sets.length c1, .slice a2 n.words.length c2, .slice a3 n.redirs.length c3, .slice a4 n.pats.length c4, .slice a n.kids.length kcap]
  have hgw := World.grownBy_alloc w (.cells #[.int .i64 n.kind, .string ⟨n.name.toArray⟩, .bool n.inn, .slice a1 n.sets.length c1, .slice a2 n.words.length c2, .slice a3 n.redirs.length c3, .slice a4 n.pats.length c4, .slice a n.kids.length kcap] 35) none
  have HNd := hide (NdR.pf hn (PF.of_grown (n0 := n0) hgw))
  have HP := hide (h.grown hgw)
  have HF := hide (PF.of_grown (n0 := n0) hgw)
  obtain ⟨W, hW⟩ : ∃ W, w.alloc (.cells #[.int .i64 n.kind, .string ⟨n.name.toArray⟩, .bool n.inn, .slice a1 n.sets.length c1, .slice a2 n.words.length c2, .slice a3 n.redirs.length c3, .slice a4 n.pats.length c4, .slice a n.kids.length kcap] 35) = W := ⟨_, rfl⟩
  rw [hW] at hB HNd HP HF
  have HW := hide hW
  obtain ⟨B, hBe⟩ : ∃ B, w.heap.size = B := ⟨_, rfl⟩
  rw [hBe] at hB
  have HBe := hide hBe
  have HB := hide hB
  have k7 := Blk.cell hB 7
  have lB := Blk.lt hB
  unfold ndCells
  have HPw := hide h
  have HGw := hide hgw
  clear hW hBe hB h hn hgw
  unfold sv
  by_cases h3 : n.kids.length < 3
  · have q0 : decide ((n.kids.length : Int) < 3) = true := decide_eq_true (by omega)
    have hee : elifB l n = false := by unfold elifB; rw [List.getElem?_eq_none (by omega)]
    rw [hee]
    clear hee
    go_enter Try.func35, Try.ntmps35
    go_upto_region 1 with (first | (refine wpList_boxN _ W B (by exact rfl) HW.out HBe.out ?_))
    go_wp2_with fail
    go_ret
    exact ⟨rfl, HP.out, HF.out⟩
  · have q0 : decide ((n.kids.length : Int) < 3) = false := decide_eq_false (by omega)
    have h2 : 2 < n.kids.length := by omega
    have h2b : (2 : Int) < (n.kids.length : Int) := by omega
    obtain ⟨kg, ko, ha, hkg, hkc⟩ := (IntR.get HNd.out.kids 2 h2)
    have hkk := hk.2 n.kids[2] (List.getElem_mem h2)
    have hee : elifB l n = (decide ((0 : Int) ≤ n.kids[2]) && (ndF l n.kids[2]).kind == 10 && (ndF l n.kids[2]).redirs.isEmpty) := by unfold elifB; rw [List.getElem?_eq_getElem h2]
    obtain ⟨k, hkv⟩ : ∃ k, n.kids[2] = k := ⟨_, rfl⟩
    rw [hkv] at hkc hkk hee
    subst ha
    clear hkv
    by_cases hneg : k < 0
    · have q1 : decide (k < 0) = true := decide_eq_true hneg
      have hef : elifB l n = false := by rw [hee, decide_eq_false (by omega)]; rfl
      rw [hef]
      clear hee hef
      go_enter Try.func35, Try.ntmps35
      go_upto_region 1 with (first | (refine wpList_boxN _ W B (by exact rfl) HW.out HBe.out ?_))
      go_wp2_with fail
      go_ret
      exact ⟨rfl, HP.out, HF.out⟩
    · obtain ⟨j, rfl⟩ : ∃ j : Nat, k = j := ⟨k.toNat, by omega⟩
      have q1 : decide ((j : Int) < 0) = false := decide_eq_false (by omega)
      have hj : j < l.length := by omega
      have hjb : (0 : Int) ≤ j ∧ (j : Int) < (l.length : Int) := by omega
      rw [decide_eq_true (by omega), Bool.true_and, ndF_at rfl hj] at hee
      obtain ⟨v, p, buf, hA, hp, hNs, hbl⟩ := HP.out
      have z0 := hA.cells.1
      have lpb := Blk.lt hA.blk
      obtain ⟨g2, off2, cap2, y1, y2, y3, y4, y5, rfl, hcc, hmx, hg2, hn2, f0, f1, f2, f3, f4, f5, f6, f7⟩ := hNs.at_ j hj
      obtain ⟨b1, d1, b2, d2, b3, d3, b4, d4, b5, d5, rfl, rfl, rfl, rfl, rfl⟩ := hn2.forms
      obtain ⟨n2, hne2⟩ : ∃ n2, l[j] = n2 := ⟨_, rfl⟩
      rw [hne2] at f0 f1 f2 f3 f4 f5 f6 f7 hee
      rw [hee]
      unfold sv at f1
      clear hee hne2 hn2 hNs hA hp hcc
      have hem : n2.redirs.isEmpty = ((n2.redirs.length : Int) == 0) := by
        cases n2.redirs with
        | nil => rfl
        | cons x r =>
          symm
          show (((x :: r).length : Int) == 0) = false
          rw [beq_eq_false_iff_ne, List.length_cons]
          omega
      rw [hem]
      clear hem
      obtain ⟨kd, hkd⟩ : ∃ kd, (n2.kind == 10) = kd := ⟨_, rfl⟩
      obtain ⟨ke, hke⟩ : ∃ ke, ((n2.redirs.length : Int) == 0) = ke := ⟨_, rfl⟩
      rw [hkd, hke]
      have hend : w.grownBy (W.drew.alloc (.cells #[.int .i64 n2.kind, .string ⟨n2.name.toArray⟩, .bool n2.inn, .slice b1 n2.sets.length d1, .slice b2 n2.words.length d2, .slice b3 n2.redirs.length d3, .slice b4 n2.pats.length d4, .slice b5 n2.kids.length d5] 35)) none := by
        have := HGw.out
        rw [HW.out] at this
        exact only_alloc (only_drew this) _
      have HEND := hide hend
      have HPF2 := hide ((HF.out.drew).alloc (.cells #[.int .i64 n2.kind, .string ⟨n2.name.toArray⟩, .bool n2.inn, .slice b1 n2.sets.length d1, .slice b2 n2.words.length d2, .slice b3 n2.redirs.length d3, .slice b4 n2.pats.length d4, .slice b5 n2.kids.length d5] 35))
      clear hend
      go_enter Try.func35, Try.ntmps35
      go_upto_region 1 with (first | (refine wpList_boxN _ W B (by exact rfl) HW.out HBe.out ?_))
      go_upto_region 3 with (fail)
      refine wp_region_perm [0, 1, 2, 3, 4, 5, 6, 7, 8, 9] [10, 11] (by kernel_rfl) (by kernel_rfl) (fun W2 => W2.cell? ⟨pb, 0, none⟩ = some (.slice (some ⟨g2, off2, none⟩) l.length cap2) ∧ W2.cell? ⟨B, 7, none⟩ = some (.slice (some ⟨kg, ko, none⟩) n.kids.length kcap) ∧ W2.cell? ⟨kg, ko + 2, none⟩ = some (.int .i64 j) ∧ W2.cell? ⟨g2, off2 + j * 8, none⟩ = some (.int .i64 n2.kind) ∧ W2.cell? ⟨g2, off2 + j * 8 + 1, none⟩ = some (.string ⟨n2.name.toArray⟩) ∧ W2.cell? ⟨g2, off2 + j * 8 + 2, none⟩ = some (.bool n2.inn) ∧ W2.cell? ⟨g2, off2 + j * 8 + 3, none⟩ = some (.slice b1 n2.sets.length d1) ∧ W2.cell? ⟨g2, off2 + j * 8 + 4, none⟩ = some (.slice b2 n2.words.length d2) ∧ W2.cell? ⟨g2, off2 + j * 8 + 5, none⟩ = some (.slice b3 n2.redirs.length d3) ∧ W2.cell? ⟨g2, off2 + j * 8 + 6, none⟩ = some (.slice b4 n2.pats.length d4) ∧ W2.cell? ⟨g2, off2 + j * 8 + 7, none⟩ = some (.slice b5 n2.kids.length d5)) ⟨z0, k7, hkc, f0, f1, f2, f3, f4, f5, f6, f7⟩ ?_
      simp only [pick, List.getElem?_cons_zero, List.getElem?_cons_succ]
      refine wpTake_cons ?_ (by rfl) ?_ ?_
      rotate_left
      · (intro W9 hSW; obtain ⟨j0, j1, j2, q0, q1, q2, q3, q4, q5, q6, q7⟩ := hSW; go_simp; try with_reducible rfl)
      simp only [Act.put, List.setIfInBounds_toArray, List.set_cons_zero, List.set_cons_succ]
      refine wpTake_cons ?_ (by rfl) ?_ ?_
      rotate_left
      · (intro W9 hSW; obtain ⟨j0, j1, j2, q0, q1, q2, q3, q4, q5, q6, q7⟩ := hSW; go_simp; try with_reducible rfl)
      simp only [Act.put, List.setIfInBounds_toArray, List.set_cons_zero, List.set_cons_succ]
      refine wpTake_cons ?_ (by rfl) ?_ ?_
      rotate_left
      · (intro W9 hSW; obtain ⟨j0, j1, j2, q0, q1, q2, q3, q4, q5, q6, q7⟩ := hSW; go_simp; try with_reducible rfl)
      simp only [Act.put, List.setIfInBounds_toArray, List.set_cons_zero, List.set_cons_succ]
      refine wpTake_cons ?_ (by rfl) ?_ ?_
      rotate_left
      · (intro W9 hSW; obtain ⟨j0, j1, j2, q0, q1, q2, q3, q4, q5, q6, q7⟩ := hSW; go_simp; try with_reducible rfl)
      simp only [Act.put, List.setIfInBounds_toArray, List.set_cons_zero, List.set_cons_succ]
      refine wpTake_cons ?_ (by rfl) ?_ ?_
      rotate_left
      · (intro W9 hSW; obtain ⟨j0, j1, j2, q0, q1, q2, q3, q4, q5, q6, q7⟩ := hSW; go_simp; try with_reducible rfl)
      simp only [Act.put, List.setIfInBounds_toArray, List.set_cons_zero, List.set_cons_succ]
      refine wpTake_cons ?_ (by rfl) ?_ ?_
      rotate_left
      · (intro W9 hSW; obtain ⟨j0, j1, j2, q0, q1, q2, q3, q4, q5, q6, q7⟩ := hSW; go_simp; try with_reducible rfl)
      simp only [Act.put, List.setIfInBounds_toArray, List.set_cons_zero, List.set_cons_succ]
      refine wpTake_cons ?_ (by rfl) ?_ ?_
      rotate_left
      · (intro W9 hSW; obtain ⟨j0, j1, j2, q0, q1, q2, q3, q4, q5, q6, q7⟩ := hSW; go_simp; try with_reducible rfl)
      simp only [Act.put, List.setIfInBounds_toArray, List.set_cons_zero, List.set_cons_succ]
      refine wpTake_cons ?_ (by rfl) ?_ ?_
      rotate_left
      · (intro W9 hSW; obtain ⟨j0, j1, j2, q0, q1, q2, q3, q4, q5, q6, q7⟩ := hSW; go_simp; try with_reducible rfl)
      simp only [Act.put, List.setIfInBounds_toArray, List.set_cons_zero, List.set_cons_succ]
      refine wpTake_cons ?_ (by rfl) ?_ ?_
      rotate_left
      · (intro W9 hSW; obtain ⟨j0, j1, j2, q0, q1, q2, q3, q4, q5, q6, q7⟩ := hSW; go_simp; try with_reducible rfl)
      simp only [Act.put, List.setIfInBounds_toArray, List.set_cons_zero, List.set_cons_succ]
      refine wpTake_cons ?_ (by rfl) ?_ ?_
      rotate_left
      · (intro W9 hSW; obtain ⟨j0, j1, j2, q0, q1, q2, q3, q4, q5, q6, q7⟩ := hSW; go_simp; try with_reducible rfl)
      simp only [Act.put, List.setIfInBounds_toArray, List.set_cons_zero, List.set_cons_succ]
      refine wpTake_nil ?_
      refine wpForce_cons fun K1 hK1 => ?_
      refine step_val (.pointer (some ⟨W.heap.size, 0, none⟩)) (W.drew.alloc (.cells #[.int .i64 0, .string ⟨#[]⟩, .bool false, .slice none 0 0, .slice none 0 0, .slice none 0 0, .slice none 0 0, .slice none 0 0] 35)) (by rfl) (by go_simp) ?_
      have hgA := only_alloc (only_drew (only_refl W none)) (.cells #[.int .i64 0, .string ⟨#[]⟩, .bool false, .slice none 0 0, .slice none 0 0, .slice none 0 0, .slice none 0 0, .slice none 0 0] 35)
      refine hK1.out _ _ ⟨old_cell hgA lpb z0, old_cell hgA lB k7, old_cell hgA hkg hkc, old_cell hgA hg2 f0, old_cell hgA hg2 f1, old_cell hgA hg2 f2, old_cell hgA hg2 f3, old_cell hgA hg2 f4, old_cell hgA hg2 f5, old_cell hgA hg2 f6, old_cell hgA hg2 f7⟩ ?_
      simp only [Act.put, List.setIfInBounds_toArray, List.set_cons_zero, List.set_cons_succ]
      refine wpForce_one ?_
      clear hgA hK1 K1
      go_wp2_with fail
      refine NoPanic.normal ?_
      cases kd with
      | true => cases ke with
        | true =>
          go_wp2_with fail
          go_ret
          exact ⟨rfl, HPw.out.grown HEND.out, HPF2.out⟩
        | false =>
          go_wp2_with fail
          go_ret
          exact ⟨rfl, HPw.out.grown HEND.out, HPF2.out⟩
      | false =>
        go_wp2_with fail
        go_ret
        exact ⟨rfl, HPw.out.grown HEND.out, HPF2.out⟩

end Go.Proofs.Ytdhfhphbkfgamaa

end
section
/- strings.Join, off the shelf. -/
namespace Go.Proofs.Ytdhfhphbkfgamaa
open Go.RowKit Lx Go.Shelf
set_option maxRecDepth 100000

def jren : Ren := ⟨fun | 156 => 56 | 165 => 63 | 166 => 54 | 169 => 16 | 240 => 62 | 241 => 77 | 276 => 76 | 277 => 82 | n => n, fun | 0 => 0 | 3 => 3 | 4 => 4 | 9 => 9 | 20 => 20 | 31 => 29 | 37 => 30 | 70 => 51 | 72 => 53 | 75 => 94 | 76 => 95 | 127 => 81 | 164 => 106 | 5 => 5 | 80 => 57 | n => n, fun n => n⟩
theorem lays156 : Lays.n156 Try.prog jren := {
  mixed := by kernel_rfl,
  f156 := Try.func56.trans (congrArg some (by kernel_rfl)),
  f165 := Try.func63.trans (congrArg some (by kernel_rfl)),
  f166 := Try.func54.trans (congrArg some (by kernel_rfl)),
  f169 := Try.func16.trans (congrArg some (by kernel_rfl)),
  f240 := Try.func62.trans (congrArg some (by kernel_rfl)),
  f241 := Try.func77.trans (congrArg some (by kernel_rfl)),
  f276 := Try.func76.trans (congrArg some (by kernel_rfl)),
  f277 := Try.func82.trans (congrArg some (by kernel_rfl)),
  t0 := Try.underlying0,
  a0 := Try.isAgg0,
  z0 := Try.sizeOf0,
  v0 := Try.zeroValue0,
  t3 := Try.underlying3,
  a3 := Try.isAgg3,
  z3 := Try.sizeOf3,
  v3 := Try.zeroValue3,
  t4 := Try.underlying4,
  a4 := Try.isAgg4,
  z4 := Try.sizeOf4,
  v4 := Try.zeroValue4,
  t9 := Try.underlying9,
  a9 := Try.isAgg9,
  z9 := Try.sizeOf9,
  v9 := Try.zeroValue9,
  t20 := Try.underlying20,
  a20 := Try.isAgg20,
  z20 := Try.sizeOf20,
  v20 := Try.zeroValue20,
  t31 := Try.underlying29,
  a31 := Try.isAgg29,
  z31 := Try.sizeOf29,
  v31 := Try.zeroValue29,
  t37 := Try.underlying30,
  a37 := Try.isAgg30,
  z37 := Try.sizeOf30,
  v37 := Try.zeroValue30,
  t70 := Try.underlying51,
  a70 := Try.isAgg51,
  z70 := Try.sizeOf51,
  v70 := Try.zeroValue51,
  t72 := Try.underlying53,
  a72 := Try.isAgg53,
  z72 := Try.sizeOf53,
  v72 := Try.zeroValue53,
  t75 := Try.underlying94,
  a75 := Try.isAgg94,
  z75 := Try.sizeOf94,
  v75 := Try.zeroValue94,
  t76 := Try.underlying95,
  a76 := Try.isAgg95,
  z76 := Try.sizeOf95,
  v76 := Try.zeroValue95,
  t127 := Try.underlying81,
  a127 := Try.isAgg81,
  z127 := Try.sizeOf81,
  v127 := Try.zeroValue81,
  t164 := Try.underlying106,
  a164 := Try.isAgg106,
  z164 := Try.sizeOf106,
  v164 := Try.zeroValue106 }
theorem jextra : Builder.Extra Try.prog jren := {
  sizeBuilder := by kernel_rfl,
  liesBuilder := by kernel_rfl,
  t5 := Try.underlying5,
  a5 := Try.isAgg5,
  z5 := Try.sizeOf5,
  v5 := Try.zeroValue5,
  infoByte := by kernel_rfl,
  cellsByte := by kernel_rfl,
  sizeByte := by kernel_rfl,
  neB5 := by decide }
theorem join_of (L : List (List UInt8)) (sep : List UInt8) : Lib.join ((L.map fun l => (ByteArray.mk l.toArray)).map (·.data.toList)) (ByteArray.mk sep.toArray).data.toList = Lib.join L sep := by
  congr 1
  · induction L with
    | nil => rfl
    | cons x r ih => simp [ih]
theorem j_raw (bk o c : Nat) (xs : List ByteArray) (sep : ByteArray) (w : World)
    (hcells : ∀ (j : Nat) x, xs[j]? = some x → w.cell? ⟨bk, o + j, none⟩ = some (.string x)) (hbk : bk < w.heap.size) (hN : xs.length ≤ 140737488355328) (hcap : xs.length ≤ c)
    (hlen : (Lib.join (xs.map (·.data.toList)) sep.data.toList).length ≤ 140737488355328) :
    Calls Try.prog 56 #[.slice (some ⟨bk, o, none⟩) xs.length c, .string sep] w fun e w' => e = .returned (.string ⟨(Lib.join (xs.map (·.data.toList)) sep.data.toList).toArray⟩) ∧ Below w.heap.size w w' :=
  Any.strings_Join lays156 jextra bk o c xs sep w hcells hbk hN hcap hlen
theorem j_none (a : Option Addr) (c : Nat) (sep : ByteArray) (w : World) : Calls Try.prog 56 #[.slice a 0 c, .string sep] w fun e w' => e = .returned (.string ⟨#[]⟩) ∧ w' = w :=
  Any.strings_Join_none lays156 jextra a c sep w
theorem join_any (L : List (List UInt8)) (sep : List UInt8) (v : Value) (w : World) (h : Rows w v L.length (L.map sv)) (hN : L.length ≤ 140737488355328) (hlen : (Lib.join L sep).length ≤ 140737488355328) :
    Calls Try.prog 56 #[v, sv sep] w fun e w' => e = .returned (sv (Lib.join L sep)) ∧ w.grownBy w' none := by
  obtain ⟨a, cap, rfl, hc, _, h2⟩ := h
  by_cases h0 : 0 < L.length
  · obtain ⟨g, off, rfl, hg, hcs⟩ := h2 h0
    have hj := join_of L sep
    have hr := j_raw g off cap (L.map fun l => ByteArray.mk l.toArray) ⟨sep.toArray⟩ w ?_ hg (by rw [List.length_map]; exact hN) (by rw [List.length_map]; exact hc) (by rw [hj]; exact hlen)
    rw [hj, List.length_map] at hr
    · refine hr.mono ?_
      rintro e w' ⟨rfl, hb⟩
      exact ⟨rfl, ⟨hb.os, hb.tape, hb.output, hb.size, fun k hk _ => hb.block k hk⟩⟩
    · intro j x hx
      rw [List.getElem?_map] at hx
      cases hl : L[j]? with
      | none => rw [hl] at hx; cases hx
      | some s =>
        rw [hl] at hx
        injection hx with hx
        subst hx
        exact hcs j _ (by rw [List.getElem?_map, hl]; rfl)
  · obtain rfl : L = [] := List.length_eq_zero_iff.1 (by omega)
    refine (j_none a cap ⟨sep.toArray⟩ w).mono ?_
    rintro e w' ⟨rfl, rfl⟩
    exact ⟨rfl, only_refl _ _⟩

end Go.Proofs.Ytdhfhphbkfgamaa

end
section
/- The printer: cases. -/
namespace Go.Proofs.Ytdhfhphbkfgamaa
open Go.RowKit Lx
set_option maxRecDepth 100000

/-- No text is beyond all bounds. -/
structure Lite (n : Nd) : Prop where
  w : ∀ s ∈ n.words, s.length ≤ 140737488355328
  p : ∀ p ∈ n.pats, p.length ≤ 140737488355328 ∧ (joinF p).length ≤ 140737488355328
  r : ∀ r ∈ n.redirs, r.op.length ≤ 140737488355328 ∧ r.wd.length ≤ 140737488355328
theorem join_f : ∀ p : List (List UInt8), Lib.join p [32, 124, 32] = joinF p
  | [] => rfl
  | [s] => Lib.join_one s _
  | s :: t :: r => by
    have := join_f (t :: r)
    unfold Lib.join at this ⊢
    rw [List.intercalate_cons_cons, this]
    rfl
theorem PatR.form {n0 : Nat} {w : World} {v : Value} {l : List (List (List UInt8))} (h : PatR n0 w v l) : ∃ a cap, v = .slice a l.length cap ∧ l.length ≤ 9223372036854775807 := by
  obtain ⟨cs, h, _⟩ := h
  obtain ⟨a, cap, hv, _, h2, _⟩ := h.now
  exact ⟨a, cap, hv, h2⟩
theorem PatR.get {n0 : Nat} {w : World} {a : Option Addr} {m cap : Nat} {L : List (List (List UInt8))} (h : PatR n0 w (.slice a m cap) L) (i : Nat) (hi : i < L.length) : ∃ g off u, a = some ⟨g, off, none⟩ ∧ g < w.heap.size ∧ w.cell? ⟨g, off + i, none⟩ = some u ∧ StrR n0 w u L[i] := by
  obtain ⟨cs, h1, h2⟩ := h
  obtain ⟨a2, cap2, hv, _, _, h3⟩ := h1.now
  injection hv with hv _ _
  obtain ⟨g, off, ha, hg, hc⟩ := h3 (by omega)
  obtain ⟨u, hu, hs⟩ := h2 i hi
  exact ⟨g, off, u, hv.trans ha, hg, hc i u hu, hs⟩
/-- The first one, or none. -/
theorem StrR.one {n0 : Nat} {w : World} {a : Option Addr} {cap : Nat} {L : List (List UInt8)} (h : StrR n0 w (.slice a L.length cap) L) : Rows w (.slice a (min 1 L.length) cap) (L.take 1).length ((L.take 1).map sv) := by
  obtain ⟨a2, cap2, hv, h1, h2, h3⟩ := h.now
  injection hv with e1 _ e2
  subst e1 e2
  rw [List.length_take]
  refine ⟨a, cap, rfl, by omega, by omega, fun hp => ?_⟩
  obtain ⟨g, off, ha, hg, hc⟩ := h3 (by omega)
  refine ⟨g, off, ha, hg, fun j x hj => hc j x ?_⟩
  rw [List.map_take] at hj
  rw [List.getElem?_take] at hj
  split at hj
  · exact hj
  · cases hj
theorem join_one1 (L : List (List UInt8)) : Lib.join (L.take 1) [] = L.headD [] := by
  cases L with
  | nil => rfl
  | cons s r => exact Lib.join_one s _
def patK (rec : Nat → List (List UInt8)) (n : Nd) (i : Nat) : List (List UInt8) := match n.kids[i]? with
  | some k => if 0 ≤ k then [[32]] ++ rec k.toNat else []
  | none => []
set_option maxHeartbeats 8000000 in
theorem cases_any (n0 pb m : Nat) (l : List Nd) (rec : Nat → List (List UInt8)) (hN : NodeOk n0 pb l rec m) (b : List UInt8) (n : Nd) (x1 x2 x3 x4 x5 : Value) (w : World) (hk : KidsLt n m) (hlt : Lite n) (h : PrIs n0 w pb l b) (hn : NdR n0 w x1 x2 x3 x4 x5 n) (hpl : n.pats.length ≤ 100000) :
    Calls Try.prog 36 #[.pointer (some ⟨pb, 0, none⟩), .agg (ndCells n x1 x2 x3 x4 x5).toArray] w fun e w' => e = .returned (.tuple #[]) ∧ PrIs n0 w' pb l (putsF b (casesE rec n)) ∧ PF n0 w w' := by
  obtain ⟨a1, c1, a2, c2, a3, c3, a4, c4, a, kcap, rfl, rfl, rfl, rfl, rfl⟩ := hn.forms
  have hkl := hk.1
  have hB := Blk.new w 35 #[.int .i64 n.kind, .string ⟨n.name.toArray⟩, .bool n.inn, .slice a1 n.sets.length c1, .slice a2 n.words.length c2, .slice a3 n.redirs.length c3, .slice a4 n.pats.length c4, .slice a n.kids.length kcap]
  have hgw := World.grownBy_alloc w (.cells #[.int .i64 n.kind, .string ⟨n.name.toArray⟩, .bool n.inn, .slice a1 n.sets.length c1, .slice a2 n.words.length c2, .slice a3 n.redirs.length c3, .slice a4 n.pats.length c4, .slice a n.kids.length kcap] 35) none
  have HNd := hide (NdR.pf hn (PF.of_grown (n0 := n0) hgw))
  have HP := hide (h.grown hgw)
  have HF := hide (PF.of_grown (n0 := n0) hgw)
  obtain ⟨W, hW⟩ : ∃ W, w.alloc (.cells #[.int .i64 n.kind, .string ⟨n.name.toArray⟩, .bool n.inn, .slice a1 n.sets.length c1, .slice a2 n.words.length c2, .slice a3 n.redirs.length c3, .slice a4 n.pats.length c4, .slice a n.kids.length kcap] 35) = W := ⟨_, rfl⟩
  rw [hW] at hB HNd HP HF
  have HW := hide hW
  obtain ⟨B, hBe⟩ : ∃ B, w.heap.size = B := ⟨_, rfl⟩
  rw [hBe] at hB
  have HBe := hide hBe
  have HB := hide hB
  have k4 := Blk.cell hB 4
  have lB := Blk.lt hB
  have HKid := hide (fun i b W (hW : PrIs n0 W pb l b) (hN2 : NdR n0 W (.slice a1 n.sets.length c1) (.slice a2 n.words.length c2) (.slice a3 n.redirs.length c3) (.slice a4 n.pats.length c4) (.slice a n.kids.length kcap) n) (hi : i ≤ 100000) => kid_any n0 pb m l rec hN b n _ _ _ _ _ i W hk hW hN2 hi)
  unfold ndCells sv at HKid
  unfold ndCells
  have HP1 := hide (fun b L W (hW : PrIs n0 W pb l b) (hL : L.length ≤ 1000) => put_new n0 pb l b L W hW hL)
  have HJ0 := join_any (n.words.take 1) [] _ W (StrR.one HNd.out.words) (by rw [List.length_take]; omega) (by
    rw [join_one1]
    cases hw : n.words with
    | nil => exact Nat.zero_le _
    | cons s r => exact hlt.w s (by rw [hw]; simp))
  rw [join_one1] at HJ0
  obtain ⟨wd, hwd⟩ : ∃ wd, n.words.headD [] = wd := ⟨_, rfl⟩
  have hce : casesE rec n = [[99, 97, 115, 101, 32], wd, [32, 105, 110]] ++ patsE rec n n.pats.length ++ [[32, 101, 115, 97, 99]] := by unfold casesE; rw [hwd]
  rw [hce, puts_app, puts_app]
  rw [hwd] at HJ0
  obtain ⟨wl, hwl⟩ : ∃ wl, n.words.length = wl := ⟨_, rfl⟩
  obtain ⟨w1l, hw1⟩ : ∃ q, min 1 wl = q := ⟨_, rfl⟩
  have hwm : (n.words.length : Int) ≤ 9223372036854775807 := by
    obtain ⟨_, _, _, _, h3, _⟩ := HNd.out.words.now
    omega
  have hwi : min (1 : Int) (n.words.length : Int) = (w1l : Int) := by omega
  have hwib : (0 : Int) ≤ w1l ∧ (w1l : Int) ≤ (n.words.length : Int) := by omega
  have hwc : (w1l : Int) ≤ (c2 : Int) := by
    obtain ⟨_, _, hv, h2, _, _⟩ := HNd.out.words.now
    injection hv with _ _ hv
    omega
  rw [hwl, hw1] at HJ0
  obtain ⟨B0, hB0⟩ : ∃ B0, putsF b [[99, 97, 115, 101, 32], wd, [32, 105, 110]] = B0 := ⟨_, rfl⟩
  rw [hB0]
  have HB0 := hide hB0
  have HJ := hide HJ0
  unfold sv at HJ
  clear hW hBe hB h hn hgw hce hwd HJ0 hwl hw1 hB0
  unfold sv
  go_enter Try.func36, Try.ntmps36
  go_upto_region 1 with (first | (refine wpList_boxN _ W B (by exact rfl) HW.out HBe.out ?_))
  go_wp2_with (first | (refine wpList_min w1l _ _ (by rfl) (by rfl) hwi.symm ?_))
  refine HJ.out.mono ?_
  rintro e v1 ⟨rfl, g1⟩
  have HP2 := hide (HP.out.grown g1)
  have HF2 := hide (PF.of_grown (n0 := n0) g1)
  clear g1 HJ k4
  go_wp2_with fail
  refine (HP1.out b [[99, 97, 115, 101, 32], wd, [32, 105, 110]] _ HP2.out (by simp)).mono ?_
  rintro e v2 ⟨rfl, hP2, hF2⟩
  rw [HB0.out] at hP2
  have HP3 := hide hP2
  have hF3 := HF2.out.trans hF2
  have HF3 := hide hF3
  have hB3 := hF3.blk HB.out (by decide) (by decide)
  have k6 := Blk.cell hB3 6
  have lB3 := Blk.lt hB3
  clear hP2 hF2 hF3 hB3 HP2 HF2
  go_wp2_with fail
  go_loopw [20] (fun v wr => ∃ i : Nat, v = .int .i64 i ∧ i ≤ n.pats.length ∧ PrIs n0 wr pb l (putsF B0 (patsE rec n i)) ∧ PF n0 W wr) (fun v _ => n.pats.length - (intOf v).toNat)
  case atStart => exact ⟨0, rfl, Nat.zero_le _, HP3.out, HF3.out⟩
  case round =>
    obtain ⟨i, rfl, hi, hP, hFr⟩ := hrel
    have HPr := hide hP
    have HFr := hide hFr
    clear k6 lB3 HP3 HF3
    by_cases hlt2 : i < n.pats.length
    · have q0 : decide ((i : Int) < (n.pats.length : Int)) = true := decide_eq_true (by omega)
      have hib : (0 : Int) ≤ i ∧ (i : Int) < (n.pats.length : Int) := by omega
      obtain ⟨pg, po, u, ha, hpg, hpc, hps⟩ := (PatR.pf HNd.out.pats hFr).get i hlt2
      obtain ⟨ua, uc, rfl, hu1, hu2⟩ := hps.at_
      have hlp := hlt.p n.pats[i] (List.getElem_mem hlt2)
      have HJ1 := join_any n.pats[i] [32, 124, 32] _ wr hps.now hlp.1 (by rw [join_f]; exact hlp.2)
      rw [join_f] at HJ1
      have hsn : putsF B0 (patsE rec n (i + 1)) = putsF (putsF (putsF (putsF B0 (patsE rec n i)) [[32, 40], joinF n.pats[i], [41]]) (patK rec n i)) [[59, 59]] := by
        have hg : n.pats.getD i [] = n.pats[i] := by rw [List.getD_eq_getElem?_getD, List.getElem?_eq_getElem hlt2]; rfl
        show putsF B0 (patsE rec n i ++ [[32, 40], joinF (n.pats.getD i []), [41]] ++ patK rec n i ++ [[59, 59]]) = _
        rw [puts_app, puts_app, puts_app, hg]
      obtain ⟨jw, hjw⟩ : ∃ jw, joinF n.pats[i] = jw := ⟨_, rfl⟩
      obtain ⟨pl, hpl2⟩ : ∃ pl, n.pats[i].length = pl := ⟨_, rfl⟩
      rw [hjw] at HJ1 hsn
      rw [hpl2] at HJ1 hpc
      have HJ := hide HJ1
      unfold sv at HJ
      have HSN := hide hsn
      have hB1 := hFr.blk HB.out (by decide) (by decide)
      have HB1 := hide hB1
      subst ha
      clear hP hFr hps hlp HJ1 hsn hjw hpl2 hB1 hu1 hu2
      go_wp2_with fail
      refine HJ.out.mono ?_
      rintro e v3 ⟨rfl, g3⟩
      have HP2 := hide (HPr.out.grown g3)
      have HF2 := hide (HFr.out.trans (PF.of_grown (n0 := n0) g3))
      clear g3 HJ hpc hpg
      go_wp2_with fail
      refine (HP1.out _ [[32, 40], jw, [41]] _ HP2.out (by simp)).mono ?_
      rintro e v4 ⟨rfl, hP4, hF4⟩
      have HP4 := hide hP4
      have hF5 := HF2.out.trans hF4
      have HF4 := hide hF5
      have hB4 := hF5.blk HB.out (by decide) (by decide)
      have k7 := Blk.cell hB4 7
      have lB4 := Blk.lt hB4
      clear hP4 hF4 HP2 HF2
      by_cases hik : i < n.kids.length
      · have q1 : decide ((i : Int) < (n.kids.length : Int)) = true := decide_eq_true (by omega)
        have hikb : (0 : Int) ≤ i ∧ (i : Int) < (n.kids.length : Int) := by omega
        obtain ⟨kg, ko, hka, hkg, hkc⟩ := (IntR.pf HNd.out.kids hF5).get i hik
        have hkk := hk.2 n.kids[i] (List.getElem_mem hik)
        have hmt : patK rec n i = if 0 ≤ n.kids[i] then [[32]] ++ rec n.kids[i].toNat else [] := by unfold patK; rw [List.getElem?_eq_getElem hik]
        have hke : kidE rec n i = if 0 ≤ n.kids[i] then rec n.kids[i].toNat else [] := by unfold kidE; rw [List.getElem?_eq_getElem hik]
        have hs2 := HSN.out
        rw [hmt] at hs2
        obtain ⟨k, hkv⟩ : ∃ k, n.kids[i] = k := ⟨_, rfl⟩
        rw [hkv] at hkc hkk hke hs2
        have HS2 := hide hs2
        have HKE := hide hke
        subst hka
        clear hF5 hmt hs2 hke hkv
        by_cases h0 : 0 ≤ k
        · have q2 : decide ((0 : Int) ≤ k) = true := decide_eq_true h0
          clear hB4
          go_wp2_with fail
          refine (HP1.out _ [[32]] _ HP4.out (by simp)).mono ?_
          rintro e v5 ⟨rfl, hP5, hF6⟩
          have HP5 := hide hP5
          have hF7 := HF4.out.trans hF6
          have HF5 := hide hF7
          have hB5 := hF7.blk HB.out (by decide) (by decide)
          clear hP5 hF6 k7 lB4 hkc hkg
          have c0_ := Blk.cell hB5 0
          have c1_ := Blk.cell hB5 1
          have c2_ := Blk.cell hB5 2
          have c3_ := Blk.cell hB5 3
          have c4_ := Blk.cell hB5 4
          have c5_ := Blk.cell hB5 5
          have c6_ := Blk.cell hB5 6
          have c7_ := Blk.cell hB5 7
          have lB2 := Blk.lt hB5
          clear hB5
          have HNe := hide (HNd.out.pf hF7)
          clear hF7
          go_wp2_with fail
          refine (HKid.out i _ _ HP5.out HNe.out (by omega)).mono ?_
          rintro e v6 ⟨rfl, hP6, hF6⟩
          have HP6 := hide hP6
          have HF6 := hide (HF5.out.trans hF6)
          clear hP6 hF6
          go_wp2_with fail
          refine (HP1.out _ [[59, 59]] _ HP6.out (by simp)).mono ?_
          rintro e v7 ⟨rfl, hP7, hF7⟩
          have HP7 := hide hP7
          have HF7 := hide (HF6.out.trans hF7)
          clear hP7 hF7
          go_wp2_with fail
          go_roundw
          case rel => exact ⟨i + 1, by go_num, by omega, by rw [HS2.out, if_pos h0, puts_app]; have := HP7.out; rw [HKE.out, if_pos h0] at this; exact this, HF7.out⟩
          case measure => simp [intOf]; omega
        · have q2 : decide ((0 : Int) ≤ k) = false := decide_eq_false h0
          clear hB4
          go_wp2_with fail
          refine (HP1.out _ [[59, 59]] _ HP4.out (by simp)).mono ?_
          rintro e v7 ⟨rfl, hP7, hF7⟩
          have HP7 := hide hP7
          have HF7 := hide (HF4.out.trans hF7)
          clear hP7 hF7
          go_wp2_with fail
          go_roundw
          case rel => exact ⟨i + 1, by go_num, by omega, by rw [HS2.out, if_neg (by omega)]; exact HP7.out, HF7.out⟩
          case measure => simp [intOf]; omega
      · have q1 : decide ((i : Int) < (n.kids.length : Int)) = false := decide_eq_false (by omega)
        have hs2 := HSN.out
        rw [show patK rec n i = [] by unfold patK; rw [List.getElem?_eq_none (by omega)]] at hs2
        have HS2 := hide hs2
        clear hs2 hF5 hB4
        go_wp2_with fail
        refine (HP1.out _ [[59, 59]] _ HP4.out (by simp)).mono ?_
        rintro e v7 ⟨rfl, hP7, hF7⟩
        have HP7 := hide hP7
        have HF7 := hide (HF4.out.trans hF7)
        clear hP7 hF7
        go_wp2_with fail
        go_roundw
        case rel => exact ⟨i + 1, by go_num, by omega, by rw [HS2.out]; exact HP7.out, HF7.out⟩
        case measure => simp [intOf]; omega
    · obtain rfl : i = n.pats.length := by omega
      have q0 : decide ((n.pats.length : Int) < (n.pats.length : Int)) = false := decide_eq_false (by omega)
      clear hP hFr
      go_wp2_with fail
      refine (HP1.out _ [[32, 101, 115, 97, 99]] _ HPr.out (by simp)).mono ?_
      rintro e v7 ⟨rfl, hP7, hF7⟩
      have HP7 := hide hP7
      have HF7 := hide (HFr.out.trans hF7)
      clear hP7 hF7
      go_wp2_with fail
      go_end0
      exact ⟨rfl, HP7.out, HF.out.trans HF7.out⟩

end Go.Proofs.Ytdhfhphbkfgamaa

end
