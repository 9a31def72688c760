/- The walk of ProcBounds. -/
import Derived.Test.YtljlbdbgocohlaaX2
namespace Go.Proofs.Ytljlbdbgocohlaa
open Go.RowKit Go.Maps Go.Deep

theorem Inv.inc {st : PS} (h : Inv st) {i j : Nat} {p q : Pr} (hi : st.L[i]? = some p) (hj : st.L[j]? = some q) (hij : i < j) : p.pid < q.pid := by
  have := h.sg.inc
  rw [List.pairwise_iff_getElem] at this
  obtain ⟨h1, e1⟩ := List.getElem?_eq_some_iff.1 hi
  obtain ⟨h2, e2⟩ := List.getElem?_eq_some_iff.1 hj
  have := this i j (by simpa using h1) (by simpa using h2) hij
  simp only [List.getElem_map] at this
  rw [e1, e2] at this
  exact this
theorem Inv.idx_at {st : PS} (h : Inv st) {k : Nat} {p : Pr} (hk : st.L[k]? = some p) : idx st.L p.pid = some k := by
  obtain ⟨hlt, e⟩ := List.getElem?_eq_some_iff.1 hk
  have key : ∀ m j, j ≤ k → k - j = m → idxFrom st.L p.pid j = some k := by
    intro m
    induction m with
    | zero => intro j hj hm; have : j = k := by omega
              subst this; exact idx_here hlt (by rw [e])
    | succ m ih =>
      intro j hj hm
      have hjl : j < st.L.length := by omega
      have := h.inc (List.getElem?_eq_getElem hjl) hk (by omega)
      rw [idx_next hjl (by omega)]
      exact ih (j + 1) (by omega) (by omega)
  exact key k 0 (by omega) (by omega)
theorem Inv.live_at {st : PS} (h : Inv st) {k : Nat} {p : Pr} (hk : st.L[k]? = some p) (hd : p.dead = false) : liveN st.L p.pid = some k := by
  unfold liveN
  rw [h.idx_at hk]
  simp only [getD_of hk, hd]
  rfl
theorem room_L {st : PS} {u : Int} : (roomRes st u).1.L = st.L := room_st.1
theorem bounds_fork {st : PS} (h : Inv st) {k : Nat} {p : Pr} (hk : st.L[k]? = some p) (hd : p.dead = false) (hr : p.res = false) :
    (forkRes st p.pid false).2.2 = (if st.f p.usr < 6 then 0 else 13) ∧ ∃ more, (forkRes st p.pid false).1.L = st.L ++ more := by
  have hm : p.usr ∈ st.U := h.kn p (List.mem_of_getElem? hk) hr
  unfold forkRes
  rw [h.live_at hk hd]
  simp only [getD_of hk, Bool.false_eq_true, if_false]
  have hroom : (roomRes st p.usr).2 = if st.f p.usr < 6 then 0 else 13 := by
    unfold roomRes
    rw [if_neg (by intro e; have := e.1; simp [hm] at this)]
    by_cases h6 : 6 ≤ st.f p.usr
    · rw [if_pos h6, if_neg (by omega)]
    · rw [if_neg h6, if_pos (by omega)]
  rw [hroom]
  by_cases h6 : st.f p.usr < 6
  · rw [if_pos h6, if_pos rfl]
    exact ⟨rfl, [child st p.pid p false], by simp only [addPr, room_L]⟩
  · rw [if_neg h6, if_neg (by decide)]
    exact ⟨rfl, [], by simp⟩
theorem PrsIs.held {w w' : World} {e : TypeId} {g off n cap : Nat} {L : List Pr} {o : Obj} (h : PrsIs w e (.slice (some ⟨g, off, none⟩) n cap) L) (h1 : w.heap[g]? = some o) (h2 : w'.heap[g]? = some o) : PrsIs w' e (.slice (some ⟨g, off, none⟩) n cap) L :=
  Own.keep h (fun b hb => by simp [Value.ownBlock] at hb; subst hb; rw [h1, h2])

theorem countS {w0 w : World} {b : Nat} {K : Kept} {st : PS} (H : Hid (SoloK w0 w b K st)) (c : Int) (hc : wfi c) (o : Obj) : Calls Try.prog 13 #[.pointer (some ⟨b, 0, none⟩), .int .i64 c] (w.alloc o) fun e w' => e = .returned (.int .i64 (st.f c)) ∧ w.alloc o = w' := by
  obtain ⟨v, mb, h⟩ := (H.out.gr_ (only_alloc (only_refl _ none) o)).at
  exact count_any b v mb st c hc _ h

set_option maxRecDepth 100000 in
set_option maxHeartbeats 4000000 in
theorem bounds_any (a : Option Addr) (len cap : Nat) (hlen : len ≤ 9223372036854775807) (w : World) (ha : OpsIn w a len) :
    Calls Try.prog 5 #[.slice a len cap] w fun e w' => e = .returned (.bool true) ∧ Below w.heap.size w w' := by
  have Ha := hide ha
  clear ha
  go_enter Try.func5, Try.ntmps5
  go_wp2_with fail
  go_at_call 7
  refine (shown_true w).mono ?_
  rintro e w1 ⟨rfl, hg⟩
  have G1 := hide hg
  clear hg
  go_wp2_with fail
  go_at_call 8
  refine (new_any w1).mono ?_
  rintro e w2 ⟨b, S, rfl, hF⟩
  have HF := hide hF
  clear hF
  go_wp2_with fail
  go_at_call 16
  refine (rnew_any w2).mono ?_
  rintro e w3 ⟨b', S', rfl, hR⟩
  have H0 := hide (both_start G1.out HF.out hR)
  clear hR G1 HF
  go_wp2_with fail
  go_loopw [6] (fun v wr => ∃ (k : Nat) (st : PS), v = .int .i64 k ∧ k ≤ 200 ∧ Inv st ∧ st.last ≤ 1 + k ∧ Both w wr b b' none_ st st.rs) (fun v _ => 200 - (intOf v).toNat)
  case atStart => exact ⟨0, newPS, rfl, by omega, new_inv, by decide, H0.out⟩
  case round =>
    obtain ⟨k, st, rfl, hk, hi, hl, hB⟩ := hrel
    clear H0
    by_cases hlt : k < len ∧ k < 200
    · obtain ⟨hlt, hlt2⟩ := hlt
      obtain ⟨ob, off, x0, x1, x2, x3, rfl, hb, -, -, hw2, c0, c1, c2, c3⟩ := Ha.out k hlt
      have hG := hB.grown
      have d0 := none_cell hG hb c0
      have d1 := none_cell hG hb c1
      have d2 := none_cell hG hb c2
      have d3 := none_cell hG hb c3
      have q1 : decide ((k : Int) < len) = true := by simp; omega
      have q3 : decide ((k : Int) < 200) = true := by simp; omega
      have HB1 := hide hB
      have Hi := hide hi
      clear hB hG hi c0 c1 c2 c3
      go_wp2_with fail
      go_at_call 17
      refine (does_any HB1.out Hi.out (by omega) x0 x1 x2 x3).mono ?_
      rintro e w4 ⟨rfl, st1, hB, hi1, hl1⟩
      have HB5 := hide hB
      have Hi1 := hide hi1
      clear hB hi1 HB1 d0 d1 d2 d3 Hi
      go_wp2_with fail
      go_at_call 18
      refine (sAll HB5.out.solo).mono ?_
      rintro e w8 ⟨g, aoff, acap, rfl, hP, hgn, hgr, o1, ho1⟩
      have HB6 := hide (HB5.out.gr_ hgr)
      have hlenL : st1.L.length ≤ 53 := by have := Hi1.out.len; omega
      have HP := hide hP
      clear hP hgr hgn HB5
      go_wp2_with fail
      go_loopw [8, 9] (fun v1 v wi => ∃ (m : Int) (j : Nat), v1 = .int .i64 m ∧ v = .int .i64 j ∧ j ≤ st1.L.length ∧ 0 ≤ m ∧ m ≤ j ∧ m = rcnt (st1.L.take j) ∧ w8 = wi) (fun _ v _ => st1.L.length - (intOf v).toNat)
      case atStart => exact ⟨0, 0, rfl, rfl, by omega, by omega, by omega, rfl, rfl⟩
      case round =>
        obtain ⟨m, j, rfl, rfl, hj, hm0, hm1, hm, rfl⟩ := hrel
        have Hm := hide hm
        clear hm
        by_cases hjl : j < st1.L.length
        · obtain ⟨s, hs⟩ : ∃ s, st1.L[j]? = some s := ⟨_, List.getElem?_eq_getElem hjl⟩
          obtain ⟨p0, p1, p2, p3, p4, p5, p6⟩ := HP.out.c rfl hjl hs
          have q5 : decide ((j : Int) < (st1.L.length : Int)) = true := by simp; omega
          have i1 : (0 : Int) ≤ j ∧ (j : Int) < (st1.L.length : Int) := by omega
          have hct := rcnt_take hs
          have hwf : wfi s.usr := by have := Hi1.out.us s (List.mem_of_getElem? hs); exact wfi_small (by omega) (by omega)
          have q6 : decide ((6 : Int) < st1.f s.usr) = false := by have := Hi1.out.f6 s.usr; rw [← Hi1.out.f] at this; simp; omega
          have Hwf := hide hwf
          clear hs hwf
          cases hr : s.res with
          | true =>
            rw [hr] at p6
            have h1 : m + 1 = rcnt (st1.L.take (j + 1)) := by rw [hct, ← Hm.out]; simp [rind, hr]
            have H1 := hide h1
            clear hct h1 hr
            go_wp2_with fail
            go_at_call 13
            refine (countT HB6 s.usr Hwf.out 0).mono ?_
            rintro e w9 ⟨rfl, rfl⟩
            go_wp2_with fail
            go_roundw
            case rel => exact ⟨m + 1, j + 1, by go_num, by go_num, by omega, by omega, by omega, H1.out, (by first | rfl | trivial)⟩
            case measure => simp [intOf]; omega
          | false =>
            rw [hr] at p6
            have h1 : m = rcnt (st1.L.take (j + 1)) := by rw [hct, ← Hm.out]; simp [rind, hr]
            have H1 := hide h1
            clear hct h1 hr
            go_wp2_with fail
            go_at_call 13
            refine (countT HB6 s.usr Hwf.out 0).mono ?_
            rintro e w9 ⟨rfl, rfl⟩
            go_wp2_with fail
            go_roundw
            case rel => exact ⟨m, j + 1, rfl, by go_num, by omega, by omega, by omega, H1.out, (by first | rfl | trivial)⟩
            case measure => simp [intOf]; omega
        · have q5 : decide ((j : Int) < (st1.L.length : Int)) = false := by simp; omega
          have h1 : m = rcnt st1.L := by rw [Hm.out, List.take_of_length_le (by omega)]
          have q7 : decide (5 < m) = false := by have := Hi1.out.s5; simp; omega
          have q8 : decide ((53 : Int) < (st1.L.length : Int)) = false := by simp; omega
          have q9 : decide ((8 : Int) < (st1.U.length : Int)) = false := by have := Hi1.out.u8; simp; omega
          clear h1 HP
          go_wp2_with fail
          go_at_call 19
          refine (knownT HB6 0).mono ?_
          rintro e w9 ⟨rfl, rfl⟩
          go_wp2_with fail
          go_roundw
          case rel => exact ⟨k + 1, st1, by go_num, by omega, Hi1.out, by omega, HB6.out⟩
          case measure => simp [intOf]; omega
    · have HB := hide hB.solo
      have Hi := hide hi
      clear hB hi
      by_cases hlt2 : k < len
      all_goals
        go_wp2_with fail
        go_at_call 18
        refine (sAll HB.out).mono ?_
        rintro e w8 ⟨g, aoff, acap, rfl, hP, hgn, hgr, o1, ho1⟩
        have HS := hide (HB.out.also hgr hgn ho1)
        have hlenL : st.L.length ≤ 53 := by have := Hi.out.len; omega
        have HP := hide hP
        have Ho1 := hide ho1
        clear hP hgr hgn HB ho1
        go_wp2_with fail
        go_loopw [11] (fun v wi => ∃ (j : Nat) (st2 : PS) (more : List Pr), v = .int .i64 j ∧ j ≤ st.L.length ∧ Inv st2 ∧ st2.L = st.L ++ more ∧ st2.last ≤ 201 + j ∧ SoloK w wi b (lay none_ g o1) st2) (fun v _ => st.L.length - (intOf v).toNat)
        case atStart => exact ⟨0, st, [], rfl, by omega, Hi.out, by simp, by omega, HS.out⟩
        case round =>
          obtain ⟨j, st2, mr, rfl, hj, hi2, hL2, hl2, hS2⟩ := hrel
          by_cases hjl : j < st.L.length
          · obtain ⟨s, hs⟩ : ∃ s, st.L[j]? = some s := ⟨_, List.getElem?_eq_getElem hjl⟩
            have hs2 : st2.L[j]? = some s := by rw [hL2, List.getElem?_append_left hjl]; exact hs
            obtain ⟨p0, p1, p2, p3, p4, p5, p6⟩ := (HP.out.held Ho1.out (hS2.held (.inl ⟨rfl, rfl⟩))).c rfl hjl hs
            have q5 : decide ((j : Int) < (st.L.length : Int)) = true := by simp; omega
            have i1 : (0 : Int) ≤ j ∧ (j : Int) < (st.L.length : Int) := by omega
            have HS2 := hide hS2
            have Hi2 := hide hi2
            have HL2 := hide hL2
            have Hs2 := hide hs2
            clear hS2 hi2 hL2 hs2 hs
            cases hd : s.dead with
            | true =>
              rw [hd] at p5
              clear hd
              go_wp2_with fail
              go_roundw
              case rel => exact ⟨j + 1, st2, mr, by go_num, by omega, Hi2.out, HL2.out, by omega, HS2.out.gr_ (only_alloc (only_refl _ none) _)⟩
              case measure => simp [intOf]; omega
            | false =>
              rw [hd] at p5
              cases hr : s.res with
              | true =>
                rw [hr] at p6
                clear hd hr
                go_wp2_with fail
                go_roundw
                case rel => exact ⟨j + 1, st2, mr, by go_num, by omega, Hi2.out, HL2.out, by omega, HS2.out.gr_ (only_alloc (only_refl _ none) _)⟩
                case measure => simp [intOf]; omega
              | false =>
                rw [hr] at p6
                obtain ⟨hy, more2, hmore⟩ := bounds_fork Hi2.out Hs2.out hd hr
                have hfi := fork_inv Hi2.out s.pid false
                obtain ⟨n, hn⟩ : ∃ n, st2.f s.usr = n := ⟨_, rfl⟩
                rw [hn] at hy
                obtain ⟨⟨st3, x, y⟩, hE⟩ : ∃ p, forkRes st2 s.pid false = p := ⟨_, rfl⟩
                rw [hE] at hy hmore hfi
                simp only at hy hmore hfi
                have hcnt := countS HS2 s.usr (by have := Hi2.out.us s (List.mem_of_getElem? Hs2.out); exact wfi_small (by omega) (by omega)) (.cells #[.int .i64 s.pid, .int .i64 s.par, .int .i64 s.usr, .int .i64 s.ses, .int .i64 s.sta, .bool false, .bool false] 34)
                rw [hn] at hcnt
                have hfork := sFork (hide (HS2.out.gr_ (only_alloc (only_refl wr none) (.cells #[.int .i64 s.pid, .int .i64 s.par, .int .i64 s.usr, .int .i64 s.ses, .int .i64 s.sta, .bool false, .bool false] 34)))) Hi2.out (by omega) s.pid false (x := x) (y := y) (by rw [hE])
                rw [hE] at hfork
                have Hcnt := hide hcnt
                have Hfork := hide hfork
                have Hfi := hide hfi
                have Hmore := hide hmore
                clear hd hr hcnt hfork hmore hfi hE hn
                by_cases h6 : n < 6
                · rw [if_pos h6] at hy
                  subst hy
                  have q7 : decide (n < 6) = true := by simpa using h6
                  clear h6
                  go_wp2_with fail
                  refine Hcnt.out.mono ?_
                  rintro e w9 ⟨rfl, rfl⟩
                  go_wp2_with fail
                  refine Hfork.out.mono ?_
                  rintro e w9 ⟨rfl, HS3⟩
                  go_wp2_with fail
                  go_roundw
                  case rel => exact ⟨j + 1, st3, mr ++ more2, by go_num, by omega, Hfi.out.1, by rw [Hmore.out, HL2.out, List.append_assoc], by have := Hfi.out.2; omega, HS3.out⟩
                  case measure => simp [intOf]; omega
                · rw [if_neg h6] at hy
                  subst hy
                  have q7 : decide (n < 6) = false := by simpa using h6
                  clear h6
                  go_wp2_with fail
                  refine Hcnt.out.mono ?_
                  rintro e w9 ⟨rfl, rfl⟩
                  go_wp2_with fail
                  refine Hfork.out.mono ?_
                  rintro e w9 ⟨rfl, HS3⟩
                  go_wp2_with fail
                  go_roundw
                  case rel => exact ⟨j + 1, st3, mr ++ more2, by go_num, by omega, Hfi.out.1, by rw [Hmore.out, HL2.out, List.append_assoc], by have := Hfi.out.2; omega, HS3.out⟩
                  case measure => simp [intOf]; omega
          · have q5 : decide ((j : Int) < (st.L.length : Int)) = false := by simp; omega
            have hG := hide hS2.grown
            clear hS2 hi2 hL2 hl2
            go_wp2
            go_ret
            exact ⟨rfl, below_of_none hG.out⟩

end Go.Proofs.Ytljlbdbgocohlaa
