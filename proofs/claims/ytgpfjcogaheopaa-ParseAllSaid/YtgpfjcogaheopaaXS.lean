/- The document's sign, stops and word. -/
import Derived.Test.YtgpfjcogaheopaaXN
import Derived.Test.YtgpfjcogaheopaaXQ
set_option linter.all false
namespace Go.Proofs.Ytgpfjcogaheopaa.Lx
open Go.RowKit
set_option maxRecDepth 100000
set_option maxHeartbeats 2000000 in
theorem sign_d (t : List UInt8) (w : World) (hs : t.length ≤ 1000000) : Calls Try.prog 27 #[sv t] w fun e w' => e = .returned (sv (signF t)) ∧ w.grownBy w' none := by
 have Hsg := hide (fun w' => signs_any w')
 have h1 := sz t
 unfold sv
 go_enter Try.func27, Try.ntmps27
 go_wp2_with fail
 refine (Hsg.out _).mono ?_
 rintro e w2 ⟨rfl, hw2⟩
 have HB := hide (show Blk w2 w.heap.size 9 (sgs.map sv).toArray by rw [hw2]; exact Blk.new w 9 _)
 have HG := hide (show w.grownBy w2 none by rw [hw2]; exact only_alloc (only_refl w none) _)
 have lb := Blk.lt HB.out
 clear hw2
 go_wp2_with fail
 go_loopw [4] (fun v4 wr => ∃ m : Nat, v4 = .int .i64 m ∧ m ≤ 16 ∧ (∀ j (h : j < sgs.length), j < m → hasSign t sgs[j] = false) ∧ wr = w2) (fun v4 _ => 16 - (intOf v4).toNat)
 case atStart => exact ⟨0, rfl, by omega, fun j _ h => absurd h (Nat.not_lt_zero _), rfl⟩
 case round =>
  obtain ⟨m, rfl, hm, hno, rfl⟩ := hrel
  have Hno := hide hno
  clear hno
  by_cases hlt : m < 16
  ·have hl : m < sgs.length := hlt
   have q0 : decide ((m : Int) < 16) = true := decide_eq_true (by omega)
   have hib : (0 : Int) ≤ m ∧ (m : Int) < 16 := by omega
   have cs : wr.cell? ⟨w.heap.size, m, none⟩ = some (.string ⟨(sgs[m]).toArray⟩) := by
    rw [Blk.cell HB.out, List.getElem?_toArray, List.getElem?_map, List.getElem?_eq_getElem hl]
    rfl
   have hsl := (sgs_len _ (List.getElem_mem hl)).2
   have hb := fun w' => begins_any t sgs[m] w' (by omega) (by omega)
   have hfound := fun h => sign_found hl Hno.out h
   have hb2 : ∀ w', Calls Try.prog 26 #[.string ⟨t.toArray⟩, .string ⟨(sgs[m]).toArray⟩] w' fun e w3 => e = .returned (.bool (hasSign t sgs[m])) ∧ w3 = w' := hb
   obtain ⟨s, hs⟩ : ∃ s, sgs[m] = s := ⟨_, rfl⟩
   rw [hs] at cs hb2 hfound
   have Hs := hide hs
   cases hh : hasSign t s with
   | true =>
    rw [hh] at hb2
    have Hf := hide (hfound hh)
    have Hb := hide hb2
    clear hfound hb hb2 hh hs hsl
    go_wp2_with fail
    refine (Hb.out _).mono ?_
    rintro e w3 ⟨rfl, rfl⟩
    go_wp2_with fail
    go_ret
    exact ⟨by rw [Hf.out]; rfl, HG.out⟩
   | false =>
    rw [hh] at hb2
    have Hh := hide hh
    have Hb := hide hb2
    clear hfound hb hb2 hh hs hsl
    go_wp2_with fail
    refine (Hb.out _).mono ?_
    rintro e w3 ⟨rfl, rfl⟩
    go_wp2_with fail
    go_roundw
    case rel =>
     refine ⟨m + 1, by go_num, by omega, fun j h hj => ?_, trivial⟩
     by_cases hjm : j < m
     ·exact Hno.out j h hjm
     ·obtain rfl : j = m := by omega
      rw [Hs.out]; exact Hh.out
    case measure => simp [intOf]; omega
  ·obtain rfl : m = 16 := by omega
   have Hf := hide (sign_none (fun j h => Hno.out j h h))
   go_wp2_with fail
   go_ret
   exact ⟨by rw [Hf.out]; rfl, HG.out⟩
set_option maxHeartbeats 2000000 in
theorem stops_d (c : UInt8) (w : World) : Calls Try.prog 46 #[.int .u8 c.toNat] w fun e w' => e = .returned (.bool (isIn stopB c)) ∧ w' = w := by
 by_cases h0 : c = 32
 ·subst h0
  rw [show isIn stopB 32 = true from by decide]
  go_enter Try.func46, Try.ntmps46
  go_wp2_with fail
  go_ret
  exact ⟨rfl, rfl⟩
 have q0 : ((c.toNat : Int) == 32) = false := byte_ne (d := 32) h0
 by_cases h1 : c = 9
 ·subst h1
  rw [show isIn stopB 9 = true from by decide]
  go_enter Try.func46, Try.ntmps46
  go_wp2_with fail
  go_ret
  exact ⟨rfl, rfl⟩
 have q1 : ((c.toNat : Int) == 9) = false := byte_ne (d := 9) h1
 by_cases h2 : c = 10
 ·subst h2
  rw [show isIn stopB 10 = true from by decide]
  go_enter Try.func46, Try.ntmps46
  go_wp2_with fail
  go_ret
  exact ⟨rfl, rfl⟩
 have q2 : ((c.toNat : Int) == 10) = false := byte_ne (d := 10) h2
 by_cases h3 : c = 124
 ·subst h3
  rw [show isIn stopB 124 = true from by decide]
  go_enter Try.func46, Try.ntmps46
  go_wp2_with fail
  go_ret
  exact ⟨rfl, rfl⟩
 have q3 : ((c.toNat : Int) == 124) = false := byte_ne (d := 124) h3
 by_cases h4 : c = 38
 ·subst h4
  rw [show isIn stopB 38 = true from by decide]
  go_enter Try.func46, Try.ntmps46
  go_wp2_with fail
  go_ret
  exact ⟨rfl, rfl⟩
 have q4 : ((c.toNat : Int) == 38) = false := byte_ne (d := 38) h4
 by_cases h5 : c = 59
 ·subst h5
  rw [show isIn stopB 59 = true from by decide]
  go_enter Try.func46, Try.ntmps46
  go_wp2_with fail
  go_ret
  exact ⟨rfl, rfl⟩
 have q5 : ((c.toNat : Int) == 59) = false := byte_ne (d := 59) h5
 by_cases h6 : c = 60
 ·subst h6
  rw [show isIn stopB 60 = true from by decide]
  go_enter Try.func46, Try.ntmps46
  go_wp2_with fail
  go_ret
  exact ⟨rfl, rfl⟩
 have q6 : ((c.toNat : Int) == 60) = false := byte_ne (d := 60) h6
 by_cases h7 : c = 62
 ·subst h7
  rw [show isIn stopB 62 = true from by decide]
  go_enter Try.func46, Try.ntmps46
  go_wp2_with fail
  go_ret
  exact ⟨rfl, rfl⟩
 have q7 : ((c.toNat : Int) == 62) = false := byte_ne (d := 62) h7
 by_cases h8 : c = 40
 ·subst h8
  rw [show isIn stopB 40 = true from by decide]
  go_enter Try.func46, Try.ntmps46
  go_wp2_with fail
  go_ret
  exact ⟨rfl, rfl⟩
 have q8 : ((c.toNat : Int) == 40) = false := byte_ne (d := 40) h8
 by_cases h9 : c = 41
 ·subst h9
  rw [show isIn stopB 41 = true from by decide]
  go_enter Try.func46, Try.ntmps46
  go_wp2_with fail
  go_ret
  exact ⟨rfl, rfl⟩
 have q9 : ((c.toNat : Int) == 41) = false := byte_ne (d := 41) h9
 have hf : isIn stopB c = false := by
  cases hh : isIn stopB c with
  | false => rfl
  | true =>
   rcases stop_of hh with h | h | h | h | h | h | h | h | h | h
   ·exact absurd h h0
   ·exact absurd h h1
   ·exact absurd h h2
   ·exact absurd h h3
   ·exact absurd h h4
   ·exact absurd h h5
   ·exact absurd h h6
   ·exact absurd h h7
   ·exact absurd h h8
   ·exact absurd h h9
 rw [hf]
 clear hf h0 h1 h2 h3 h4 h5 h6 h7 h8 h9
 go_enter Try.func46, Try.ntmps46
 go_wp2_with fail
 go_ret
 exact ⟨rfl, rfl⟩
theorem resW {w : World} {b : Nat} {x y z u : Value} {tmps : Array Value} (h : Blk w b 61 #[x, y, z, u]) (t4 : tmps.getD 4 undef = .pointer (some ⟨b, 0, none⟩)) : (results Try.f28 tmps).run Try.prog w = .ok (.agg #[x, y, z, u]) w := by
 have f0 := Blk.cell h 0
 have f1 := Blk.cell h 1
 have f2 := Blk.cell h 2
 have f3 := Blk.cell h 3
 have t4' : tmps[4]?.getD undef = .pointer (some ⟨b, 0, none⟩) := by simpa using t4
 simp [results, Try.results28, go_sem, t4', f0, f1, f2, f3]
set_option maxHeartbeats 4000000 in
theorem word_d (t : List UInt8) (at_ : Nat) (w : World) (hs : t.length ≤ 1000000) (ha : at_ + t.length ≤ 2000000) : Calls Try.prog 28 #[sv t, .int .i64 at_] w fun e w' => e = .returned (endsV at_ (wordR t)) ∧ w.grownBy w' none := by
 have h1 := sz t
 have hext : ∀ n, (ByteArray.mk t.toArray).extract n t.length = ⟨(t.drop n).toArray⟩ := fun n => ext_drop t n _ rfl
 obtain ⟨R, hR⟩ : ∃ R, wordR t = R := ⟨_, rfl⟩
 rw [hR]
 have HR0 := hide hR
 have Hp := hide (fun k w' (hk : k < t.length) => part_d 25 (t.drop k) false 0 (at_ + k) w' (by omega) (by rw [List.length_drop]; omega) (by rw [List.length_drop]; omega))
 have Hst := hide (fun c w' => stops_d c w')
 clear hR
 unfold sv at Hp ⊢
 go_enter Try.func28, Try.ntmps28
 go_wp2_with fail
 go_loopw [5] (fun vi wr => ∃ k : Nat, vi = .int .i64 k ∧ k ≤ t.length ∧ Blk wr w.heap.size 61 #[.int .i64 0, .bool false, .bool false, .int .i64 0] ∧ w.grownBy wr none ∧ (wordR (t.drop k)).add k = R) (fun vi _ => t.length + 1 - (intOf vi).toNat)
 case atStart => exact ⟨0, rfl, Nat.zero_le _, Blk.new w 61 _, only_alloc (only_refl w none) _, by rw [List.drop_zero, Rs.add_zero, HR0.out]⟩
 case round =>
  obtain ⟨k, rfl, hk, hB, hG, hres⟩ := hrel
  have HB := hide hB
  have HG := hide hG
  have HR := hide hres
  have d0 := Blk.cell hB 0
  have d1 := Blk.cell hB 1
  have d2 := Blk.cell hB 2
  have d3 := Blk.cell hB 3
  have z0 := Blk.frozen hB 0
  have z1 := Blk.frozen hB 1
  have z2 := Blk.frozen hB 2
  have z3 := Blk.frozen hB 3
  have lb := Blk.lt hB
  clear hB hG hres HR0
  by_cases hlt2 : k < t.length
  ·have q0 : decide ((k : Int) < (t.length : Int)) = true := decide_eq_true (by omega)
   have hat := str_at' t k hlt2
   have hib : (0 : Int) ≤ k ∧ (k : Int) < (t.length : Int) := by omega
   have hib2 : (0 : Int) ≤ k ∧ (k : Int) ≤ (t.length : Int) := by omega
   have hdr := drop_at hlt2
   obtain ⟨c, hc⟩ : ∃ c, t[k] = c := ⟨_, rfl⟩
   rw [hc] at hat hdr
   have hw := word_cons c (t.drop (k + 1))
   rw [← hdr] at hw
   have hS := fun w' => Hst.out c w'
   cases hst : isIn stopB c with
   | true =>
    rw [hst] at hS hw
    rw [if_pos rfl] at hw
    have HS := hide hS
    have Hw := hide hw
    clear hS hw hdr hc hst
    go_wp2_with fail
    refine (HS.out _).mono ?_
    rintro e w3 ⟨rfl, rfl⟩
    go_wp2_with fail
    exact bodyPost_ret (resW (fin4 HB.out _ _ _ _) rfl) rfl ⟨by rw [← HR.out, Hw.out]; simp [endsV, endsL, Rs.add], gr4 HG.out (Nat.le_refl _) _ _ _ _⟩
   | false =>
    rw [hst] at hS hw
    rw [if_neg Bool.false_ne_true] at hw
    have HS := hide hS
    have hpt := Hp.out k
    obtain ⟨P, hP⟩ : ∃ P, partR 25 false (t.drop k) = P := ⟨_, rfl⟩
    rw [hP] at hw
    have hpt2 : ∀ w', Calls Try.prog 47 #[.string ⟨(t.drop k).toArray⟩, .bool false, .int .i64 0, .int .i64 ((at_ : Int) + k)] w' fun e w9 => e = .returned (endsV ((at_ : Int) + k) P) ∧ w'.grownBy w9 none := fun w' => by
     have := hpt w' hlt2
     rw [hP] at this
     rwa [show (((at_ + k : Nat)) : Int) = (at_ : Int) + k by omega] at this
    have hpl : ∀ n, P = .ok n → k + n ≤ t.length := fun n hn => by
     have := part_le 25 false (t.drop k) n (by rw [hP, hn])
     rw [List.length_drop] at this
     omega
    have Hw := hide hw
    have Hpt := hide hpt2
    clear hS hw hdr hc hst hpt hpt2 hP
    go_wp2_with fail
    refine (HS.out _).mono ?_
    rintro e w2 ⟨rfl, rfl⟩
    go_wp2_with fail
    refine (Hpt.out _).mono ?_
    rintro e w3 ⟨rfl, hg3⟩
    have HB3 := hide (Blk.grown HB.out hg3 (by simp))
    have HG3 := hide (none_trans HG.out hg3)
    have d0 := Blk.cell HB3.out 0
    have d1 := Blk.cell HB3.out 1
    have d2 := Blk.cell HB3.out 2
    have d3 := Blk.cell HB3.out 3
    have z0 := Blk.frozen HB3.out 0
    have z1 := Blk.frozen HB3.out 1
    have z2 := Blk.frozen HB3.out 2
    have z3 := Blk.frozen HB3.out 3
    have lb := Blk.lt HB3.out
    clear hg3
    unfold endsV
    cases P with
    | more =>
     unfold endsL
     go_wp2_with fail
     exact bodyPost_ret (resW (Blk.alloc (fin4 HB3.out _ _ _ _) _) rfl) rfl ⟨by rw [← HR.out, Hw.out]; simp [endsV, endsL, Rs.add], only_alloc (gr4 HG3.out (Nat.le_refl _) _ _ _ _) _⟩
    | deep a =>
     unfold endsL
     go_wp2_with fail
     exact bodyPost_ret (resW (Blk.alloc (fin4 HB3.out _ _ _ _) _) rfl) rfl ⟨by rw [← HR.out, Hw.out]; simp [endsV, endsL, Rs.add]; omega, only_alloc (gr4 HG3.out (Nat.le_refl _) _ _ _ _) _⟩
    | ok n =>
     unfold endsL
     have hn := hpl n rfl
     have hdd : (t.drop (k + 1)).drop (n - 1) = t.drop (k + max n 1) := by rw [List.drop_drop]; congr 1; omega
     have hst2 := Hw.out
     simp only [hdd] at hst2
     obtain ⟨m, hm⟩ : ∃ m, max n 1 = m := ⟨_, rfl⟩
     rw [hm] at hst2
     have Hst2 := hide hst2
     clear hst2 hdd hpl
     have nz : (n = 0 ∧ m = 1) ∨ (((n : Int) == 0) = false ∧ ¬ n = 0 ∧ m = n) := by
      by_cases e : n = 0
      ·exact .inl ⟨e, by omega⟩
      ·exact .inr ⟨by rw [beq_eq_false_iff_ne]; omega, e, by omega⟩
     clear hm
     rcases nz with ⟨rfl, rfl⟩ | ⟨nz, nz', rfl⟩
     ·go_wp2_with fail
      go_roundw
      case rel => exact ⟨k + 1, by go_num, by omega, Blk.alloc HB3.out _, only_alloc HG3.out _, by rw [← HR.out, Hst2.out, Rs.add_add]⟩
      case measure => simp [intOf]; omega
     ·go_wp2_with fail
      go_roundw
      case rel => exact ⟨k + m, by go_num, by omega, Blk.alloc HB3.out _, only_alloc HG3.out _, by rw [← HR.out, Hst2.out, Rs.add_add]⟩
      case measure => simp [intOf]; omega
  ·have q0 : decide ((k : Int) < (t.length : Int)) = false := decide_eq_false (by omega)
   have hRm : R = .ok k := by
    have := HR.out
    rw [List.drop_eq_nil_of_le (by omega), word_nil] at this
    rw [← this]; rfl
   subst hRm
   go_wp2_with fail
   exact bodyPost_ret (resW (fin4 HB.out _ _ _ _) rfl) rfl ⟨by simp [endsV, endsL], gr4 HG.out (Nat.le_refl _) _ _ _ _⟩
end Go.Proofs.Ytgpfjcogaheopaa.Lx
