/- The walk of PrintLines. -/
import Derived.Test.YtdhfhphbkfgamaaMG
import Derived.Deep.LoopGhost
namespace Go.Proofs.Ytdhfhphbkfgamaa
open Go.RowKit Lx
set_option maxRecDepth 100000

theorem noq_of {s : List UInt8} (h : ∀ (j : Nat) (hj : j < s.length), s[j] ∉ qts) : NoQ s := by
  intro c hc
  obtain ⟨j, hj, rfl⟩ := List.mem_iff_getElem.1 hc
  exact h j hj
theorem byte_eq {c : UInt8} {d : Nat} (hd : d < 256) (h : (c.toNat : Int) = d) : c = UInt8.ofNat d := by
  apply UInt8.toNat_inj.1
  rw [UInt8.toNat_ofNat', Nat.mod_eq_of_lt (by omega)]
  omega
theorem print_len (l : List Nd) : (printF l).length ≤ 4096 := by
  unfold printF
  split
  · simp only []
    split
    · simp
    · split
      · omega
      · simp
  · simp
set_option maxHeartbeats 8000000 in
theorem lines_any (s : List UInt8) (w : World) (hm : s.length ≤ 9223372036854775807) : Calls Try.prog 3 #[sv s] w fun e w' => e = .returned (.bool true) ∧ w.grownBy w' none := by
  have Hs := hide (fun W => shown_any W)
  have HP := hide (fun W => parse_any s W hm)
  have HL := hide (lts_parse s)
  have HN := hide (fun h : NoQ s => print_no (parse_no h))
  obtain ⟨P, hP⟩ : ∃ P, parseF s = P := ⟨_, rfl⟩
  rw [hP] at HP HL HN
  clear hP
  have hsz := sz s
  unfold ParsePost sv at HP
  unfold sv
  go_enter Try.func3, Try.ntmps3
  go_wp2_with fail
  refine (Hs.out _).mono ?_
  rintro e w1 ⟨rfl, g1⟩
  have G1 := hide g1
  clear g1
  go_wp2_with fail
  go_loopg [4] s.length (fun g v4 wr => ∃ i : Nat, v4 = .int .i64 i ∧ i ≤ s.length ∧ s.length - i ≤ g ∧ w.grownBy wr none ∧ ∀ (j : Nat) (hj : j < s.length), j < i → s[j] ∉ qts)
  case atStart => exact ⟨0, rfl, Nat.zero_le _, Nat.le_refl _, G1.out, fun j hj h => by omega⟩
  case round =>
    obtain ⟨i, rfl, hi, hgi, hgr, hno⟩ := hrel
    have HGI := hide hgi
    have HGR := hide hgr
    have HNO := hide hno
    clear hgi hgr hno
    by_cases hlt : i < s.length
    · have q0 : decide ((i : Int) < (s.length : Int)) = true := decide_eq_true (by omega)
      have hib : (0 : Int) ≤ (i : Int) ∧ (i : Int) < (s.length : Int) := by omega
      have hat := str_at' s i hlt
      obtain ⟨c, hc⟩ : ∃ c, s[i] = c := ⟨_, rfl⟩
      rw [hc] at hat
      have HC := hide hc
      clear hc
      by_cases hq : c ∈ qts
      · have hq2 := hq
        simp only [qts, List.mem_cons, List.not_mem_nil, or_false] at hq2
        clear hq
        rcases hq2 with rfl | rfl | rfl | rfl | rfl
        all_goals
          go_wp2_with fail
          go_ret
          exact ⟨rfl, HGR.out⟩
      · have hq2 := hq
        simp only [qts, List.mem_cons, List.not_mem_nil, or_false, not_or] at hq2
        obtain ⟨h1, h2, h3, h4, h5⟩ := hq2
        have p1 : ((c.toNat : Int) == 39) = false := byte_ne h1
        have p2 : ((c.toNat : Int) == 34) = false := byte_ne h2
        have p3 : ((c.toNat : Int) == 92) = false := byte_ne h3
        have p4 : ((c.toNat : Int) == 96) = false := byte_ne h4
        have p5 : ((c.toNat : Int) == 36) = false := byte_ne h5
        have HQ := hide hq
        clear h1 h2 h3 h4 h5 hq
        go_wp2_with fail
        go_roundg (gk - 1)
        case rel => exact ⟨i + 1, by go_num, by omega, by have := HGI.out; omega, HGR.out, fun j hj h => by
          rcases Nat.lt_or_ge j i with h | h
          · exact HNO.out j hj h
          · obtain rfl : j = i := by omega
            rw [HC.out]
            exact HQ.out⟩
        case measure => have := HGI.out; omega
    · obtain rfl : i = s.length := by omega
      have q0 : decide ((s.length : Int) < (s.length : Int)) = false := decide_eq_false (by omega)
      have HNQ := hide (HN.out (noq_of fun j hj => HNO.out j hj hj))
      go_wp2_with fail
      refine (HP.out _).mono ?_
      rintro e w2 ⟨v, rfl, hnd, _, g2⟩
      have G2 := hide (none_trans HGR.out g2)
      have HPR := hide (print_any P.ns v w2 hnd.ndsR HL.out)
      unfold sv at HPR
      obtain ⟨a2, c2, rfl, _⟩ := (hnd.ndsR (n0 := w2.heap.size)).form
      clear hnd g2
      by_cases he : P.e = 0
      · have q1 : (P.e != 0) = false := by simp [he]
        have htl := print_len P.ns
        obtain ⟨t, ht⟩ : ∃ t, printF P.ns = t := ⟨_, rfl⟩
        rw [ht] at HPR HNQ htl
        have hsz2 := sz t
        have HE := hide he
        clear ht he
        go_wp2_with fail
        refine HPR.out.mono ?_
        rintro e w3 ⟨rfl, g3⟩
        have G3 := hide (none_trans G2.out g3)
        clear g3
        go_wp2_with fail
        go_loopg [9] t.length (fun g v9 wr => ∃ i : Nat, v9 = .int .i64 i ∧ i ≤ t.length ∧ t.length - i ≤ g ∧ wr = w3)
        case atStart => exact ⟨0, rfl, Nat.zero_le _, Nat.le_refl _, rfl⟩
        case round =>
          obtain ⟨i, rfl, hi, hgi, rfl⟩ := hrel
          have HGI := hide hgi
          clear hgi
          by_cases hlt : i < t.length
          · have q0 : decide ((i : Int) < (t.length : Int)) = true := decide_eq_true (by omega)
            have hib : (0 : Int) ≤ (i : Int) ∧ (i : Int) < (t.length : Int) := by omega
            have hat := str_at' t i hlt
            have hc10 : t[i] ≠ 10 := fun e => HNQ.out (e ▸ List.getElem_mem hlt)
            obtain ⟨c, hc⟩ : ∃ c, t[i] = c := ⟨_, rfl⟩
            rw [hc] at hat hc10
            have p1 : ((c.toNat : Int) == 10) = false := byte_ne hc10
            clear hc hc10
            go_wp2_with fail
            go_roundg (gk - 1)
            case rel => exact ⟨i + 1, by go_num, by omega, by have := HGI.out; omega, rfl⟩
            case measure => have := HGI.out; omega
          · obtain rfl : i = t.length := by omega
            have q0 : decide ((t.length : Int) < (t.length : Int)) = false := decide_eq_false (by omega)
            go_wp2_with fail
            go_ret
            exact ⟨rfl, G3.out⟩
      · have q1 : (P.e != 0) = true := by simpa using he
        clear he
        go_wp2_with fail
        go_ret
        exact ⟨rfl, G2.out⟩

end Go.Proofs.Ytdhfhphbkfgamaa
