/- The law on signs. -/
import Derived.Test.YtnamfafpdlieeaaP
import Derived.Test.YtnamfafpdlieeaaArgs
set_option linter.all false
namespace Go.Proofs.Ytnamfafpdlieeaa
open Go.RowKit
set_option maxRecDepth 100000

theorem signs_any (w : World) : Calls Try.prog 13 #[] w fun e w' => e = .returned (.slice (some ⟨w.heap.size, 0, none⟩) 16 16) ∧ w' = w.alloc (.cells (sgs.map sv).toArray 9) := by
  obtain ⟨W, hW⟩ : ∃ W, w.alloc (.cells (sgs.map sv).toArray 9) = W := ⟨_, rfl⟩
  rw [hW]
  have HW := hide hW
  clear hW
  go_enter Try.func13, Try.ntmps13
  go_wp2_with (first | (refine wpList_val (o := ⟨some 1, _, _, _, _, _⟩) (.slice (some ⟨w.heap.size, 0, none⟩) 16 16) W rfl (by rw [← HW.out]; kernel_rfl) ?_))
  go_ret
  exact ⟨rfl, rfl⟩
def ix (n : Int) : Nat := (BitVec.ofInt 64 n).toNat % 16
theorem ix_lt (n : Int) : ix n < 16 := Nat.mod_lt _ (by omega)
theorem and15 (n : Int) : bits .and .i64 n 15 = (ix n : Int) := by
  unfold ix
  show IntKind.i64.wrap ((BitVec.ofInt 64 n &&& BitVec.ofInt 64 15).toNat : Int) = _
  rw [BitVec.toNat_and, show (BitVec.ofInt 64 15).toNat = 2 ^ 4 - 1 from rfl, Nat.and_two_pow_sub_one_eq_mod]
  simp [IntKind.wrap, IntKind.bits, IntKind.signed]
  omega
theorem ix_ix (m : Nat) (h : m < 16) : bits .and .i64 (m : Int) 15 = (m : Int) := by
  rw [and15]
  unfold ix
  rw [BitVec.ofInt_natCast, BitVec.toNat_ofNat, Nat.mod_eq_of_lt (Nat.lt_of_lt_of_le h (by decide : 16 ≤ 2 ^ 64)), Nat.mod_eq_of_lt h]
def sgn (z : Int) : List UInt8 := sgs[ix z]'(ix_lt z)
theorem sgn_mem (z : Int) : sgn z ∈ sgs := List.getElem_mem _
def unit1 (words : Bool) (z : Int) : List (List UInt8 × Nat) := (sgn z, 2) :: if words = true then [([119], 1)] else []
def units (words : Bool) (zs : List Int) : List (List UInt8 × Nat) := zs.flatMap (unit1 words)
theorem units_ok (words : Bool) (zs : List Int) : ∀ u ∈ units words zs, Unit_ u := by
  intro u hu
  obtain ⟨z, _, hz⟩ := List.mem_flatMap.1 hu
  unfold unit1 at hz
  rcases List.mem_cons.1 hz with rfl | hz
  · exact .inl ⟨sgn_mem z, rfl⟩
  · split at hz
    · rw [List.mem_singleton] at hz; exact .inr hz
    · cases hz
theorem units_snoc (words : Bool) (zs : List Int) (z : Int) : units words (zs ++ [z]) = units words zs ++ unit1 words z := by simp [units]
theorem unitT_app (U V : List (List UInt8 × Nat)) : unitT (U ++ V) = unitT U ++ unitT V := by simp [unitT]
theorem units_len (words : Bool) (zs : List Int) : (units words zs).length = if words = true then 2 * zs.length else zs.length := by
  induction zs with
  | nil => cases words <;> rfl
  | cons z zs ih =>
    have e : (units words (z :: zs)).length = (unit1 words z).length + (units words zs).length := by
      show (unit1 words z ++ units words zs).length = _
      rw [List.length_append]
    rw [e, ih, List.length_cons]
    unfold unit1
    cases words <;> simp <;> omega
theorem units_false (zs : List Int) : ∀ (i : Nat) (h : i < zs.length) (h' : i < (units false zs).length), (units false zs)[i] = (sgn zs[i], 2) := by
  induction zs with
  | nil => intro i h; simp at h
  | cons z zs ih =>
    intro i h h'
    cases i with
    | zero => rfl
    | succ i => exact ih i (by simpa using h) (by have := units_len false zs; simp at this; rw [this]; simpa using h)
theorem units_true (zs : List Int) : ∀ (i : Nat) (h : i < zs.length) (h' : 2 * i + 1 < (units true zs).length), (units true zs)[2 * i] = (sgn zs[i], 2) ∧ (units true zs)[2 * i + 1] = ([119], 1) := by
  induction zs with
  | nil => intro i h; simp at h
  | cons z zs ih =>
    intro i h h'
    cases i with
    | zero => exact ⟨rfl, rfl⟩
    | succ i => exact ih i (by simpa using h) (by have := units_len true zs; simp at this; rw [this]; simp at h; omega)
theorem toks_at {w : World} {v : Value} {T : List Tok} (h : Own w 29 3 v T.length (tcs T) 0) (hp : 0 < T.length) : ∃ g off cap, v = .slice (some ⟨g, off, none⟩) T.length cap ∧ g < w.heap.size ∧ ∀ i (hi : i < T.length), w.cell? ⟨g, off + i * 3, none⟩ = some (.int .i64 (T[i]).k) ∧ w.cell? ⟨g, off + i * 3 + 1, none⟩ = some (.string ⟨(T[i]).t.toArray⟩) ∧ w.cell? ⟨g, off + i * 3 + 2, none⟩ = some (.int .i64 (T[i]).a) := by
  obtain ⟨g, off, cap, rfl, hg, _⟩ := tok_cell h 0 hp
  refine ⟨g, off, cap, rfl, hg, fun i hi => ?_⟩
  obtain ⟨g', off', cap', hv, _, h1, h2, h3⟩ := tok_cell h i hi
  injection hv with hv _ _
  injection hv with hv
  injection hv with e1 e2 _
  subst e1; subst e2
  exact ⟨h1, h2, h3⟩
/-- The numbers, as a list. -/
theorem ints_list {w : World} {a : Option Addr} {len : Nat} (h : IntsIn w a len) : ∀ m, m ≤ len → ∃ zs : List Int, zs.length = m ∧ ∀ i (hi : i < zs.length), ∃ b off, a = some ⟨b, off, none⟩ ∧ b < w.heap.size ∧ w.cell? ⟨b, off + i, none⟩ = some (.int .i64 zs[i]) := by
  intro m
  induction m with
  | zero => intro _; exact ⟨[], rfl, fun i hi => absurd hi (Nat.not_lt_zero _)⟩
  | succ m ih =>
    intro hm
    obtain ⟨zs, hl, hz⟩ := ih (by omega)
    obtain ⟨b, off, z, ha, hb, _, hc⟩ := h m (by omega)
    refine ⟨zs ++ [z], by rw [List.length_append, hl]; rfl, fun i hi => ?_⟩
    by_cases e : i < zs.length
    · obtain ⟨b', off', ha', hb', hc'⟩ := hz i e
      exact ⟨b', off', ha', hb', by rw [hc', List.getElem_append_left e]⟩
    · have e2 : i = zs.length := by rw [List.length_append] at hi; simp at hi; omega
      subst e2
      have hcl : w.cell? ⟨b, off + zs.length, none⟩ = some (.int .i64 z) := by rw [hl]; exact hc
      exact ⟨b, off, ha, hb, by rw [hcl, List.getElem_append_right (Nat.le_refl _)]; simp⟩
theorem old_cell {w wr : World} {b o : Nat} {v : Value} (hg : w.grownBy wr none) (hb : b < w.heap.size) (hc : w.cell? ⟨b, o, none⟩ = some v) : wr.cell? ⟨b, o, none⟩ = some v :=
  (World.cell?_of_block (a := ⟨b, o, none⟩) (hg.block b hb (by simp))).trans hc
theorem sg_cell {w : World} {b : Nat} (h : Blk w b 9 (sgs.map sv).toArray) (z : Int) : w.cell? ⟨b, ix z, none⟩ = some (.string ⟨(sgn z).toArray⟩) := by
  have hl : ix z < sgs.length := ix_lt z
  rw [Blk.cell h, List.getElem?_toArray, List.getElem?_map, List.getElem?_eq_getElem hl]
  rfl

set_option maxHeartbeats 8000000 in
theorem signs_law (a0 : Option Addr) (len0 cap0 : Nat) (words : Bool) (w : World) (hl0 : len0 ≤ 9223372036854775807) (ho0 : IntsIn w a0 len0) :
    Calls Try.prog 6 #[.slice a0 len0 cap0, .bool words] w fun e w' => e = .returned (.bool true) ∧ w.grownBy w' none := by
  have Hsh := hide (fun w' => shown_any w')
  have Hsg := hide (fun w' => signs_any w')
  obtain ⟨zs, hzl, hz⟩ := ints_list ho0 (min len0 100) (Nat.min_le_left _ _)
  have Hz := hide hz
  have hzl1 : zs.length ≤ len0 ∧ zs.length ≤ 100 ∧ (zs.length < len0 → 100 ≤ zs.length) := by omega
  clear ho0 hz hzl
  go_enter Try.func6, Try.ntmps6
  go_wp2_with fail
  refine (Hsh.out _).mono ?_
  rintro e w1 ⟨rfl, g1⟩
  have G1 := hide g1
  clear g1
  go_wp2_with fail
  refine (Hsg.out _).mono ?_
  rintro e w2 ⟨rfl, hw2⟩
  have HB := hide (show Blk w2 w1.heap.size 9 (sgs.map sv).toArray by rw [hw2]; exact Blk.new w1 9 _)
  have G2 := hide (show w.grownBy w2 none by rw [hw2]; exact only_alloc G1.out _)
  obtain ⟨sb, hsb⟩ : ∃ sb, w1.heap.size = sb := ⟨_, rfl⟩
  have Hsb := hide (show w.heap.size ≤ sb by have := G1.out.size; omega)
  rw [hsb] at HB ⊢
  clear hw2 hsb G1
  go_wp2_with fail
  go_loopw [7, 8, 9] (fun v7 v8 v9 wr => ∃ (i : Nat) (t : List UInt8), v7 = .string ⟨t.toArray⟩ ∧ v8 = .int .i64 i ∧ v9 = .int .i64 i ∧ i ≤ zs.length ∧ unitT (units words (zs.take i)) = t ∧ wr = w2) (fun _ _ v9 _ => zs.length - (intOf v9).toNat)
  case atStart => exact ⟨0, [], rfl, rfl, rfl, Nat.zero_le _, rfl, rfl⟩
  case round =>
    obtain ⟨i, t, rfl, rfl, rfl, hi, ht, rfl⟩ := hrel
    have htl := unitT_len (units_ok words (zs.take i))
    rw [units_len, List.length_take, ht] at htl
    have htl2 : t.length ≤ 600 := by
      have h1 : min i zs.length ≤ 100 := by omega
      have h2 : (if words = true then 2 * min i zs.length else min i zs.length) ≤ 200 := by split <;> omega
      omega
    clear htl
    by_cases hlt : i < zs.length
    · have q1 : decide ((i : Int) < (len0 : Int)) = true := decide_eq_true (by omega)
      have q2 : decide ((i : Int) < 100) = true := decide_eq_true (by omega)
      obtain ⟨b, off, rfl, hb, hcell⟩ := Hz.out i hlt
      have c0 := old_cell G2.out hb hcell
      obtain ⟨z, hzz⟩ : ∃ z, zs[i] = z := ⟨_, rfl⟩
      have Hnx := hide (show unitT (units words (zs.take (i + 1))) = t ++ unitT (unit1 words z) by rw [List.take_succ_eq_append_getElem hlt, hzz, units_snoc, unitT_app, ht])
      rw [hzz] at c0
      have hib : (0 : Int) ≤ i ∧ (i : Int) < (len0 : Int) := by omega
      have e15 := and15 z
      have e15' := ix_ix (ix z) (ix_lt z)
      have hix := ix_lt z
      have cs := sg_cell HB.out z
      have hsl := (sgs_len _ (sgn_mem z)).2
      obtain ⟨u, hu⟩ : ∃ u, sgn z = u := ⟨_, rfl⟩
      have Hu := hide hu
      rw [hu] at cs hsl
      obtain ⟨j, hj⟩ : ∃ j, ix z = j := ⟨_, rfl⟩
      rw [hj] at e15 e15' hix cs
      have hjb : (0 : Int) ≤ j ∧ (j : Int) < 16 := by omega
      have k1 := cat_ba t u
      have k2 := cat_ba (t ++ u) [32]
      have k3 := cat_ba (t ++ u ++ [32]) [119, 32]
      have k3' : (ByteArray.mk (t ++ (u ++ [32])).toArray) ++ ByteArray.mk #[119, 32] = ⟨(t ++ u ++ [32] ++ [119, 32]).toArray⟩ := by rw [← List.append_assoc]; exact k3
      have y1 : ¬ 9223372036854775807 < t.length + u.length := by omega
      have y2 : ¬ 9223372036854775807 < t.length + u.length + 1 := by omega
      have y2' : ¬ 9223372036854775807 < t.length + (u.length + 1) := by omega
      have y3 : ¬ 9223372036854775807 < t.length + u.length + 1 + 2 := by omega
      have y3' : ¬ 9223372036854775807 < t.length + (u.length + 1) + 2 := by omega
      clear hcell ht hzz hu hj
      cases words with
      | true =>
        go_wp2_with fail
        go_roundw
        case rel => exact ⟨i + 1, t ++ u ++ [32] ++ [119, 32], by simp [cat_ba], by go_num, by go_num, by omega, by rw [Hnx.out]; unfold unit1 unitT; rw [Hu.out]; simp, trivial⟩
        case measure => simp [intOf]; omega
      | false =>
        go_wp2_with fail
        go_roundw
        case rel => exact ⟨i + 1, t ++ u ++ [32], by simp, by go_num, by go_num, by omega, by rw [Hnx.out]; unfold unit1 unitT; rw [Hu.out]; simp, trivial⟩
        case measure => simp [intOf]; omega
    · obtain rfl : i = zs.length := by omega
      rw [List.take_length] at ht
      have hun := units_len words zs
      have hU : (units words zs).length ≤ 200 := by rw [hun]; split <;> omega
      have hall := units_all (units_ok words zs) (by omega)
      obtain ⟨T, hT⟩ : ∃ T, unitToks 0 (units words zs) ++ [(⟨4, [], (unitT (units words zs)).length⟩ : Tok)] = T := ⟨_, rfl⟩
      have hTl : T.length = (units words zs).length + 1 := by rw [← hT, List.length_append, unitToks_len]; rfl
      have hTg : ∀ n (h : n < (units words zs).length) (h' : n < T.length), (T[n]).t = ((units words zs)[n]).1 ∧ (T[n]).k = ((units words zs)[n]).2 := by
        intro n h h'
        subst hT
        rw [List.getElem_append_left (by rw [unitToks_len]; exact h)]
        exact unitToks_get _ _ _ h _
      rw [hT, ht] at hall
      have hA := fun w' => all_any t w' (by omega)
      rw [hall] at hA
      unfold AllPost sv at hA
      have HA := hide hA
      have HTg := hide hTg
      have wy : ((len0 : Int) ≤ (zs.length : Int)) ∨ (((zs.length : Nat) : Int) < (len0 : Int) ∧ (100 : Int) ≤ (zs.length : Int)) := by omega
      clear hA hall hT hTg ht
      have hm100 : zs.length ≤ 100 := by omega
      have hmb : (0 : Int) ≤ (zs.length : Int) ∧ (zs.length : Int) ≤ 100 := by omega
      rcases wy with q | ⟨q, q'⟩
      · go_wp2_with fail
        try any_goals (exfalso; omega)
        refine (HA.out _).mono ?_
        rintro e w3 ⟨⟨v, rfl, HO, hfr⟩, g3⟩
        obtain ⟨g, off, cap, rfl, hg, hT3⟩ := toks_at HO (by omega)
        have HT := hide hT3
        have HTl := hide hTl
        have HB3 := hide ((g3.block sb (Blk.lt HB.out) (by simp)).trans HB.out)
        have G3 := hide (only_trans G2.out g3)
        clear hfr HO g3 hT3
        cases words with
        | false =>
          have hTl2 : T.length = zs.length + 1 := by rw [hTl, hun]; rfl
          have hU2 : (units false zs).length = zs.length := by rw [hun]; rfl
          have Hun := hide hU2
          clear hTl hun hU2
          have HTl2 := hide hTl2
          have ntl : ((T.length : Nat) : Int) = 1 + (zs.length : Int) := by omega
          rw [hTl2]
          clear hTl2
          go_wp2_with fail
          go_loopw [13, 14] (fun v13 v14 wr => ∃ i : Nat, v13 = .int .i64 i ∧ v14 = .int .i64 i ∧ i ≤ zs.length ∧ wr = w3) (fun _ v14 _ => zs.length - (intOf v14).toNat)
          case atStart => exact ⟨0, rfl, rfl, Nat.zero_le _, rfl⟩
          case round =>
            obtain ⟨i, rfl, rfl, hi2, rfl⟩ := hrel
            by_cases hlt2 : i < zs.length
            · have l1 : (i : Int) < (zs.length : Int) := by omega
              obtain ⟨b, boff, rfl, hb, hcell⟩ := Hz.out i hlt2
              have c0 := old_cell G3.out hb hcell
              obtain ⟨hk, ht, _⟩ := HT.out i (by omega)
              obtain ⟨et, ek⟩ := HTg.out i (by rw [Hun.out]; exact hlt2) (by omega)
              rw [units_false zs i hlt2] at et ek
              rw [et] at ht
              rw [ek] at hk
              obtain ⟨z, hzz⟩ : ∃ z, zs[i] = z := ⟨_, rfl⟩
              rw [hzz] at c0 ht
              have hib : (0 : Int) ≤ i ∧ (i : Int) < (len0 : Int) := by omega
              have e15 := and15 z
              have e15' := ix_ix (ix z) (ix_lt z)
              have hix := ix_lt z
              have cs := sg_cell HB3.out z
              obtain ⟨u, hu⟩ : ∃ u, sgn z = u := ⟨_, rfl⟩
              rw [hu] at cs ht
              obtain ⟨j, hj⟩ : ∃ j, ix z = j := ⟨_, rfl⟩
              rw [hj] at e15 e15' hix cs
              have hjb : (0 : Int) ≤ j ∧ (j : Int) < 16 := by omega
              clear hcell hzz hu hj et ek
              go_wp2_with fail
              go_roundw
              case rel => exact ⟨i + 1, by go_num, by go_num, by omega, trivial⟩
              case measure => simp [intOf]; omega
            · obtain rfl : i = zs.length := by omega
              go_wp2_with fail
              go_ret
              exact ⟨rfl, G3.out⟩
        | true =>
          have hTl2 : T.length = 2 * zs.length + 1 := by rw [hTl, hun]; rfl
          have hU2 : (units true zs).length = 2 * zs.length := by rw [hun]; rfl
          have Hun := hide hU2
          clear hTl hun hU2
          have HTl2 := hide hTl2
          have ntl : ((T.length : Nat) : Int) = 1 + 2 * (zs.length : Int) := by omega
          obtain ⟨N, hN⟩ : ∃ N, 2 * zs.length + 1 = N := ⟨_, rfl⟩
          rw [hTl2, hN]
          have hN1 : (2 * (zs.length : Int) + 1) = (N : Int) := by omega
          clear hTl2
          go_wp2_with fail
          go_loopw [13, 14] (fun v13 v14 wr => ∃ i : Nat, v13 = .int .i64 ((i + 1) / 2 : Nat) ∧ v14 = .int .i64 i ∧ i ≤ 2 * zs.length ∧ wr = w3) (fun _ v14 _ => 2 * zs.length - (intOf v14).toNat)
          case atStart => exact ⟨0, rfl, rfl, Nat.zero_le _, rfl⟩
          case round =>
            obtain ⟨i, rfl, rfl, hi2, rfl⟩ := hrel
            by_cases hlt2 : i < 2 * zs.length
            · have l1 : (i : Int) < (N : Int) - 1 := by omega
              have l2 : (0 : Int) ≤ i ∧ (i : Int) < (N : Int) := by omega
              obtain ⟨m, hm⟩ : ∃ m, i / 2 = m := ⟨_, rfl⟩
              have hmz : m < zs.length := by omega
              obtain ⟨uu1, uu2⟩ := units_true zs m hmz (by rw [Hun.out]; omega)
              rcases (by omega : i = 2 * m ∨ i = 2 * m + 1) with hp | hp
              · subst hp
                obtain ⟨b, boff, rfl, hb, hcell⟩ := Hz.out m hmz
                have c0 := old_cell G3.out hb hcell
                obtain ⟨hk, ht, _⟩ := HT.out (2 * m) (by omega)
                obtain ⟨et, ek⟩ := HTg.out (2 * m) (by rw [Hun.out]; exact hlt2) (by omega)
                rw [uu1] at et ek
                rw [et] at ht
                rw [ek] at hk
                obtain ⟨z, hzz⟩ : ∃ z, zs[m] = z := ⟨_, rfl⟩
                rw [hzz] at c0 ht
                have hib : (0 : Int) ≤ m ∧ (m : Int) < (len0 : Int) := by omega
                have e15 := and15 z
                have e15' := ix_ix (ix z) (ix_lt z)
                have hix := ix_lt z
                have cs := sg_cell HB3.out z
                obtain ⟨u, hu⟩ : ∃ u, sgn z = u := ⟨_, rfl⟩
                rw [hu] at cs ht
                obtain ⟨j, hj⟩ : ∃ j, ix z = j := ⟨_, rfl⟩
                rw [hj] at e15 e15' hix cs
                have hjb : (0 : Int) ≤ j ∧ (j : Int) < 16 := by omega
                obtain ⟨I, hI⟩ : ∃ I, 2 * m = I := ⟨_, rfl⟩
                rw [hI] at hk ht l1 l2 ⊢
                have hI2 : ((I : Nat) : Int).tmod 2 = 0 := by rw [Int.tmod_eq_emod_of_nonneg (by omega)]; omega
                rw [show (I + 1) / 2 = m from by omega]
                clear hcell hzz hu hj et ek uu1 uu2 hlt2
                go_wp2_with fail
                go_roundw
                case rel => exact ⟨I + 1, by go_num, by go_num, by omega, trivial⟩
                case measure => simp [intOf]; omega
              · subst hp
                obtain ⟨hk, ht, _⟩ := HT.out (2 * m + 1) (by omega)
                obtain ⟨et, ek⟩ := HTg.out (2 * m + 1) (by rw [Hun.out]; exact hlt2) (by omega)
                rw [uu2] at et ek
                rw [et] at ht
                rw [ek] at hk
                obtain ⟨I, hI⟩ : ∃ I, 2 * m + 1 = I := ⟨_, rfl⟩
                rw [hI] at hk ht l1 l2 ⊢
                have hI2 : ((I : Nat) : Int).tmod 2 = 1 := by rw [Int.tmod_eq_emod_of_nonneg (by omega)]; omega
                rw [show (I + 1) / 2 = m + 1 from by omega]
                clear et ek uu1 uu2 hlt2
                go_wp2_with fail
                go_roundw
                case rel => exact ⟨I + 1, by go_num, by go_num, by omega, trivial⟩
                case measure => simp [intOf]; omega
            · obtain rfl : i = 2 * zs.length := by omega
              have l1 : ¬ ((2 * zs.length : Nat) : Int) < (N : Int) - 1 := by omega
              go_wp2_with fail
              go_ret
              exact ⟨rfl, G3.out⟩
      · go_wp2_with fail
        try any_goals (exfalso; omega)
        refine (HA.out _).mono ?_
        rintro e w3 ⟨⟨v, rfl, HO, hfr⟩, g3⟩
        obtain ⟨g, off, cap, rfl, hg, hT3⟩ := toks_at HO (by omega)
        have HT := hide hT3
        have HTl := hide hTl
        have HB3 := hide ((g3.block sb (Blk.lt HB.out) (by simp)).trans HB.out)
        have G3 := hide (only_trans G2.out g3)
        clear hfr HO g3 hT3
        cases words with
        | false =>
          have hTl2 : T.length = zs.length + 1 := by rw [hTl, hun]; rfl
          have hU2 : (units false zs).length = zs.length := by rw [hun]; rfl
          have Hun := hide hU2
          clear hTl hun hU2
          have HTl2 := hide hTl2
          have ntl : ((T.length : Nat) : Int) = 1 + (zs.length : Int) := by omega
          rw [hTl2]
          clear hTl2
          go_wp2_with fail
          go_loopw [13, 14] (fun v13 v14 wr => ∃ i : Nat, v13 = .int .i64 i ∧ v14 = .int .i64 i ∧ i ≤ zs.length ∧ wr = w3) (fun _ v14 _ => zs.length - (intOf v14).toNat)
          case atStart => exact ⟨0, rfl, rfl, Nat.zero_le _, rfl⟩
          case round =>
            obtain ⟨i, rfl, rfl, hi2, rfl⟩ := hrel
            by_cases hlt2 : i < zs.length
            · have l1 : (i : Int) < (zs.length : Int) := by omega
              obtain ⟨b, boff, rfl, hb, hcell⟩ := Hz.out i hlt2
              have c0 := old_cell G3.out hb hcell
              obtain ⟨hk, ht, _⟩ := HT.out i (by omega)
              obtain ⟨et, ek⟩ := HTg.out i (by rw [Hun.out]; exact hlt2) (by omega)
              rw [units_false zs i hlt2] at et ek
              rw [et] at ht
              rw [ek] at hk
              obtain ⟨z, hzz⟩ : ∃ z, zs[i] = z := ⟨_, rfl⟩
              rw [hzz] at c0 ht
              have hib : (0 : Int) ≤ i ∧ (i : Int) < (len0 : Int) := by omega
              have e15 := and15 z
              have e15' := ix_ix (ix z) (ix_lt z)
              have hix := ix_lt z
              have cs := sg_cell HB3.out z
              obtain ⟨u, hu⟩ : ∃ u, sgn z = u := ⟨_, rfl⟩
              rw [hu] at cs ht
              obtain ⟨j, hj⟩ : ∃ j, ix z = j := ⟨_, rfl⟩
              rw [hj] at e15 e15' hix cs
              have hjb : (0 : Int) ≤ j ∧ (j : Int) < 16 := by omega
              clear hcell hzz hu hj et ek
              go_wp2_with fail
              go_roundw
              case rel => exact ⟨i + 1, by go_num, by go_num, by omega, trivial⟩
              case measure => simp [intOf]; omega
            · obtain rfl : i = zs.length := by omega
              go_wp2_with fail
              go_ret
              exact ⟨rfl, G3.out⟩
        | true =>
          have hTl2 : T.length = 2 * zs.length + 1 := by rw [hTl, hun]; rfl
          have hU2 : (units true zs).length = 2 * zs.length := by rw [hun]; rfl
          have Hun := hide hU2
          clear hTl hun hU2
          have HTl2 := hide hTl2
          have ntl : ((T.length : Nat) : Int) = 1 + 2 * (zs.length : Int) := by omega
          obtain ⟨N, hN⟩ : ∃ N, 2 * zs.length + 1 = N := ⟨_, rfl⟩
          rw [hTl2, hN]
          have hN1 : (2 * (zs.length : Int) + 1) = (N : Int) := by omega
          clear hTl2
          go_wp2_with fail
          go_loopw [13, 14] (fun v13 v14 wr => ∃ i : Nat, v13 = .int .i64 ((i + 1) / 2 : Nat) ∧ v14 = .int .i64 i ∧ i ≤ 2 * zs.length ∧ wr = w3) (fun _ v14 _ => 2 * zs.length - (intOf v14).toNat)
          case atStart => exact ⟨0, rfl, rfl, Nat.zero_le _, rfl⟩
          case round =>
            obtain ⟨i, rfl, rfl, hi2, rfl⟩ := hrel
            by_cases hlt2 : i < 2 * zs.length
            · have l1 : (i : Int) < (N : Int) - 1 := by omega
              have l2 : (0 : Int) ≤ i ∧ (i : Int) < (N : Int) := by omega
              obtain ⟨m, hm⟩ : ∃ m, i / 2 = m := ⟨_, rfl⟩
              have hmz : m < zs.length := by omega
              obtain ⟨uu1, uu2⟩ := units_true zs m hmz (by rw [Hun.out]; omega)
              rcases (by omega : i = 2 * m ∨ i = 2 * m + 1) with hp | hp
              · subst hp
                obtain ⟨b, boff, rfl, hb, hcell⟩ := Hz.out m hmz
                have c0 := old_cell G3.out hb hcell
                obtain ⟨hk, ht, _⟩ := HT.out (2 * m) (by omega)
                obtain ⟨et, ek⟩ := HTg.out (2 * m) (by rw [Hun.out]; exact hlt2) (by omega)
                rw [uu1] at et ek
                rw [et] at ht
                rw [ek] at hk
                obtain ⟨z, hzz⟩ : ∃ z, zs[m] = z := ⟨_, rfl⟩
                rw [hzz] at c0 ht
                have hib : (0 : Int) ≤ m ∧ (m : Int) < (len0 : Int) := by omega
                have e15 := and15 z
                have e15' := ix_ix (ix z) (ix_lt z)
                have hix := ix_lt z
                have cs := sg_cell HB3.out z
                obtain ⟨u, hu⟩ : ∃ u, sgn z = u := ⟨_, rfl⟩
                rw [hu] at cs ht
                obtain ⟨j, hj⟩ : ∃ j, ix z = j := ⟨_, rfl⟩
                rw [hj] at e15 e15' hix cs
                have hjb : (0 : Int) ≤ j ∧ (j : Int) < 16 := by omega
                obtain ⟨I, hI⟩ : ∃ I, 2 * m = I := ⟨_, rfl⟩
                rw [hI] at hk ht l1 l2 ⊢
                have hI2 : ((I : Nat) : Int).tmod 2 = 0 := by rw [Int.tmod_eq_emod_of_nonneg (by omega)]; omega
                rw [show (I + 1) / 2 = m from by omega]
                clear hcell hzz hu hj et ek uu1 uu2 hlt2
                go_wp2_with fail
                go_roundw
                case rel => exact ⟨I + 1, by go_num, by go_num, by omega, trivial⟩
                case measure => simp [intOf]; omega
              · subst hp
                obtain ⟨hk, ht, _⟩ := HT.out (2 * m + 1) (by omega)
                obtain ⟨et, ek⟩ := HTg.out (2 * m + 1) (by rw [Hun.out]; exact hlt2) (by omega)
                rw [uu2] at et ek
                rw [et] at ht
                rw [ek] at hk
                obtain ⟨I, hI⟩ : ∃ I, 2 * m + 1 = I := ⟨_, rfl⟩
                rw [hI] at hk ht l1 l2 ⊢
                have hI2 : ((I : Nat) : Int).tmod 2 = 1 := by rw [Int.tmod_eq_emod_of_nonneg (by omega)]; omega
                rw [show (I + 1) / 2 = m + 1 from by omega]
                clear et ek uu1 uu2 hlt2
                go_wp2_with fail
                go_roundw
                case rel => exact ⟨I + 1, by go_num, by go_num, by omega, trivial⟩
                case measure => simp [intOf]; omega
            · obtain rfl : i = 2 * zs.length := by omega
              have l1 : ¬ ((2 * zs.length : Nat) : Int) < (N : Int) - 1 := by omega
              go_wp2_with fail
              go_ret
              exact ⟨rfl, G3.out⟩

end Go.Proofs.Ytnamfafpdlieeaa
