/- The law on stars. -/
import Derived.Test.YtphjafidencdeaaR
import Derived.Test.YtphjafidencdeaaArgs
namespace Go.Proofs.Ytphjafidencdeaa
open Go.RowKit
set_option maxRecDepth 100000

/-- A pattern that ends in a star, whatever comes behind: its parts, and that it stands for a text with anything behind. -/
structure Stars (pat st : List UInt8) : Prop where
  ex : ∃ L : List Pt, (∀ r, partsF (pat ++ r) = L ++ partsF r) ∧ ∀ u, Ma (L.map kd) (st ++ u)
theorem stars0 : Stars [42] [] := ⟨[starP], fun r => parts_star r, fun u => ma_all u⟩
theorem stars_next {pat st : List UInt8} (h : Stars pat st) (g t : List UInt8) : Stars (pat ++ quoteF t ++ [42]) (st ++ g ++ t) := by
  obtain ⟨L, h1, h2⟩ := h.ex
  refine ⟨L ++ (t.map lit ++ [starP]), fun r => ?_, fun u => ?_⟩
  · rw [List.append_assoc, List.append_assoc, h1, parts_quote]
    show L ++ (t.map lit ++ partsF (42 :: r)) = _
    rw [parts_star]
    simp
  · rw [List.map_append, List.append_assoc (st ++ g)]
    refine Ma.app (h2 g) ?_
    rw [List.map_append]
    exact (ma_lits t _ _).2 ⟨u, rfl, ma_all u⟩
theorem stars_parts {pat st : List UInt8} (h : Stars pat st) (u : List UInt8) : Ma ((partsF pat).map kd) (st ++ u) := by
  obtain ⟨L, h1, h2⟩ := h.ex
  have := h1 []
  rw [List.append_nil, partsF_nil, List.append_nil] at this
  rw [this]
  exact h2 u
theorem cell_old {w wr : World} {b o : Nat} {v : Value} (hg : w.grownBy wr none) (hb : b < w.heap.size) (hc : w.cell? ⟨b, o, none⟩ = some v) : wr.cell? ⟨b, o, none⟩ = some v :=
  (World.cell?_of_block (a := ⟨b, o, none⟩) (hg.block b hb (by simp))).trans hc

set_option maxHeartbeats 8000000 in
theorem stars_any (a0 a1 : Option Addr) (len0 cap0 len1 cap1 : Nat) (p : List UInt8) (w : World) (hl0 : len0 ≤ 9223372036854775807) (hl1 : len1 ≤ 9223372036854775807) (ho0 : StrsIn w a0 len0) (ho1 : StrsIn w a1 len1) :
    Calls Try.prog 8 #[.slice a0 len0 cap0, .slice a1 len1 cap1, sv p] w fun e w' => e = .returned (.bool true) ∧ w.grownBy w' none := by
  have Hsh := hide (fun w' => shown_any w')
  have z1 := sz p
  by_cases hbig : 400 < p.length
  · unfold sv
    have q1 : decide ((400 : Int) < (p.length : Int)) = true := by simp; omega
    go_enter Try.func8, Try.ntmps8
    go_wp2_with fail
    refine (Hsh.out _).mono ?_
    rintro e w1 ⟨rfl, g1⟩
    have G1 := hide g1
    clear g1
    go_wp2_with fail
    go_ret
    exact ⟨rfl, G1.out⟩
  have q1 : decide ((400 : Int) < (p.length : Int)) = false := by simp; omega
  have hpl := plainF_len p
  have h1 := fun w => has_calls p w (by omega)
  have h2 := fun w => plain_any p w (by omega)
  have h3 := fun (w : World) (hw : hasF p = false) => match_free p (plainF p) true w (by omega) (by omega) (yes (ma_plain hw))
  obtain ⟨b, hb⟩ : ∃ b, hasF p = b := ⟨_, rfl⟩
  rw [hb] at h1 h3
  have Ho0 := hide ho0
  have Ho1 := hide ho1
  obtain ⟨x, hx⟩ : ∃ x, plainF p = x := ⟨_, rfl⟩
  rw [hx] at h2 h3
  unfold sv at h1 h2 h3 ⊢
  have H1 := hide h1
  have H2 := hide h2
  have H3 := hide h3
  clear h1 h2 h3 hb hx ho0 ho1
  have Hq := hide (fun t w ht => quote_any t w ht)
  have Hm := hide (fun pat st w h1 h2 h3 => match_free pat st true w h1 h2 (yes h3))
  unfold sv at Hq Hm
  go_enter Try.func8, Try.ntmps8
  go_wp2_with fail
  refine (Hsh.out _).mono ?_
  rintro e w1 ⟨rfl, g1⟩
  have G1 := hide g1
  clear g1
  go_wp2_with fail
  go_loopw [8, 9, 10] (fun vp vs vi wr => ∃ (i : Nat) (pat st : List UInt8), vp = .string ⟨pat.toArray⟩ ∧ vs = .string ⟨st.toArray⟩ ∧ vi = .int .i64 i ∧ i ≤ len0 ∧ i ≤ 8 ∧ pat.length ≤ 1 + 100 * i ∧ st.length ≤ 100 * i ∧ Stars pat st ∧ w.grownBy wr none) (fun _ _ vi _ => 8 - (intOf vi).toNat)
  case atStart => exact ⟨0, [42], [], rfl, rfl, rfl, Nat.zero_le _, Nat.zero_le _, by simp, by simp, stars0, G1.out⟩
  case round =>
    obtain ⟨i, pat, st, rfl, rfl, rfl, hi, hi8, hpt, hst, hS, hg⟩ := hrel
    have HS := hide hS
    have HG := hide hg
    clear hS hg
    by_cases hlt : i < len0 ∧ i < 8
    · obtain ⟨hlt, hlt8⟩ := hlt
      have q2 : decide ((i : Int) < (len0 : Int)) = true := by simp; omega
      have q3 : decide ((i : Int) < 8) = true := by simp; omega
      have hib : (0 : Int) ≤ i ∧ (i : Int) < (len0 : Int) := by omega
      obtain ⟨g0, o0, s0, rfl, hgl, _, hc0⟩ := Ho0.out i hlt
      obtain ⟨t, rfl⟩ : ∃ t : List UInt8, s0 = ⟨t.toArray⟩ := ⟨s0.data.toList, by simp⟩
      have c0 := cell_old HG.out hgl hc0
      have Hc0 := hide hc0
      have zt := sz t
      clear hc0
      by_cases ht : 30 < t.length
      · have q4 : decide ((30 : Int) < (t.length : Int)) = true := by simp; omega
        go_wp2_with fail
        go_ret
        exact ⟨rfl, HG.out⟩
      have q4 : decide ((30 : Int) < (t.length : Int)) = false := by simp; omega
      have hql := quoteF_len t
      have hnx := fun g => stars_next HS.out g t
      have hq := fun w => Hq.out t w (by omega)
      obtain ⟨q, hq0⟩ : ∃ q, quoteF t = q := ⟨_, rfl⟩
      rw [hq0] at hql hnx hq
      have Hnx := hide hnx
      have Hqt := hide hq
      have e2 := cat_ba pat q
      have e3 := cat_ba (pat ++ q) [42]
      have y2 : ¬ 9223372036854775807 < pat.length + q.length := by omega
      have y3 : ¬ 9223372036854775807 < pat.length + q.length + 1 := by omega
      have y3' : ¬ 9223372036854775807 < pat.length + (q.length + 1) := by omega
      clear hnx hq hq0
      by_cases hi1 : i < len1
      · have q5 : decide ((i : Int) < (len1 : Int)) = true := by simp; omega
        have hib1 : (0 : Int) ≤ i ∧ (i : Int) < (len1 : Int) := by omega
        obtain ⟨g1, o1, s1, rfl, hg1, _, hcg⟩ := Ho1.out i hi1
        obtain ⟨g, rfl⟩ : ∃ g : List UInt8, s1 = ⟨g.toArray⟩ := ⟨s1.data.toList, by simp⟩
        have zg := sz g
        have c1 := cell_old HG.out hg1 hcg
        clear hcg
        by_cases hgn : g.length < 30
        · have q6 : decide ((g.length : Int) < 30) = true := by simp; omega
          have e4 := cat_ba st g
          have e5 := cat_ba (st ++ g) t
          have y4 : ¬ 9223372036854775807 < st.length + g.length := by omega
          have y5 : ¬ 9223372036854775807 < st.length + g.length + t.length := by omega
          have y5' : ¬ 9223372036854775807 < st.length + (g.length + t.length) := by omega
          go_wp2_with fail
          refine (Hqt.out _).mono ?_
          rintro e w2 ⟨rfl, g2⟩
          have G2 := hide (none_trans HG.out g2)
          have d0 := cell_old G2.out hgl Hc0.out
          clear g2 c0
          go_wp2_with fail
          go_roundw
          case rel => exact ⟨i + 1, pat ++ q ++ [42], st ++ g ++ t, by simp, by simp, by go_num, by omega, by omega, by simp; omega, by simp; omega, Hnx.out g, G2.out⟩
          case measure => simp [intOf]; omega
        · have q6 : decide ((g.length : Int) < 30) = false := by simp; omega
          have e5 := cat_ba st t
          have y5 : ¬ 9223372036854775807 < st.length + t.length := by omega
          go_wp2_with fail
          refine (Hqt.out _).mono ?_
          rintro e w2 ⟨rfl, g2⟩
          have G2 := hide (none_trans HG.out g2)
          have d0 := cell_old G2.out hgl Hc0.out
          clear g2 c0
          go_wp2_with fail
          go_roundw
          case rel => exact ⟨i + 1, pat ++ q ++ [42], st ++ t, by simp, by simp, by go_num, by omega, by omega, by simp; omega, by simp; omega, (by have := Hnx.out []; rwa [List.append_nil] at this), G2.out⟩
          case measure => simp [intOf]; omega
      · have q5 : decide ((i : Int) < (len1 : Int)) = false := by simp; omega
        have e5 := cat_ba st t
        have y5 : ¬ 9223372036854775807 < st.length + t.length := by omega
        go_wp2_with fail
        refine (Hqt.out _).mono ?_
        rintro e w2 ⟨rfl, g2⟩
        have G2 := hide (none_trans HG.out g2)
        have d0 := cell_old G2.out hgl Hc0.out
        clear g2 c0
        go_wp2_with fail
        go_roundw
        case rel => exact ⟨i + 1, pat ++ q ++ [42], st ++ t, by simp, by simp, by go_num, by omega, by omega, by simp; omega, by simp; omega, (by have := Hnx.out []; rwa [List.append_nil] at this), G2.out⟩
        case measure => simp [intOf]; omega
    · by_cases hl : i < len0
      · have q2 : decide ((i : Int) < (len0 : Int)) = true := by simp; omega
        have q3 : decide ((i : Int) < 8) = false := by simp; omega
        clear hlt
        have m1 := fun w => Hm.out pat st w (by omega) (by omega) (by have := stars_parts HS.out []; rwa [List.append_nil] at this)
        have m2 := fun w => Hm.out pat (st ++ [109, 111, 114, 101]) w (by omega) (by simp; omega) (stars_parts HS.out [109, 111, 114, 101])
        have e6 : (ByteArray.mk st.toArray) ++ ByteArray.mk #[109, 111, 114, 101] = ⟨(st ++ [109, 111, 114, 101]).toArray⟩ := cat_ba st [109, 111, 114, 101]
        have y6 : ¬ 9223372036854775807 < st.length + 4 := by omega
        have M1 := hide m1
        have M2 := hide m2
        clear m1 m2 Hm
        cases b with
        | true =>
          go_wp2_with fail
          refine (H1.out _).mono ?_
          rintro e w2 ⟨rfl, g1⟩
          have G2 := hide (none_trans HG.out g1)
          clear g1
          go_wp2_with fail
          refine (M1.out _).mono ?_
          rintro e w3 ⟨rfl, g1⟩
          have G3 := hide (none_trans G2.out g1)
          clear g1
          go_wp2_with fail
          refine (M2.out _).mono ?_
          rintro e w4 ⟨rfl, g1⟩
          have G4 := hide (none_trans G3.out g1)
          clear g1
          go_wp2_with fail
          go_ret
          exact ⟨rfl, G4.out⟩
        | false =>
          go_wp2_with fail
          refine (H1.out _).mono ?_
          rintro e w2 ⟨rfl, g1⟩
          have G2 := hide (none_trans HG.out g1)
          clear g1
          go_wp2_with fail
          refine (H2.out _).mono ?_
          rintro e w3 ⟨rfl, g1⟩
          have G3 := hide (none_trans G2.out g1)
          clear g1
          go_wp2_with fail
          refine (H3.out _ trivial).mono ?_
          rintro e w4 ⟨rfl, g1⟩
          have G4 := hide (none_trans G3.out g1)
          clear g1
          go_wp2_with fail
          refine (M1.out _).mono ?_
          rintro e w5 ⟨rfl, g1⟩
          have G5 := hide (none_trans G4.out g1)
          clear g1
          go_wp2_with fail
          refine (M2.out _).mono ?_
          rintro e w6 ⟨rfl, g1⟩
          have G6 := hide (none_trans G5.out g1)
          clear g1
          go_wp2_with fail
          go_ret
          exact ⟨rfl, G6.out⟩
      · have q2 : decide ((i : Int) < (len0 : Int)) = false := by simp; omega
        clear hlt
        have m1 := fun w => Hm.out pat st w (by omega) (by omega) (by have := stars_parts HS.out []; rwa [List.append_nil] at this)
        have m2 := fun w => Hm.out pat (st ++ [109, 111, 114, 101]) w (by omega) (by simp; omega) (stars_parts HS.out [109, 111, 114, 101])
        have e6 : (ByteArray.mk st.toArray) ++ ByteArray.mk #[109, 111, 114, 101] = ⟨(st ++ [109, 111, 114, 101]).toArray⟩ := cat_ba st [109, 111, 114, 101]
        have y6 : ¬ 9223372036854775807 < st.length + 4 := by omega
        have M1 := hide m1
        have M2 := hide m2
        clear m1 m2 Hm
        cases b with
        | true =>
          go_wp2_with fail
          refine (H1.out _).mono ?_
          rintro e w2 ⟨rfl, g1⟩
          have G2 := hide (none_trans HG.out g1)
          clear g1
          go_wp2_with fail
          refine (M1.out _).mono ?_
          rintro e w3 ⟨rfl, g1⟩
          have G3 := hide (none_trans G2.out g1)
          clear g1
          go_wp2_with fail
          refine (M2.out _).mono ?_
          rintro e w4 ⟨rfl, g1⟩
          have G4 := hide (none_trans G3.out g1)
          clear g1
          go_wp2_with fail
          go_ret
          exact ⟨rfl, G4.out⟩
        | false =>
          go_wp2_with fail
          refine (H1.out _).mono ?_
          rintro e w2 ⟨rfl, g1⟩
          have G2 := hide (none_trans HG.out g1)
          clear g1
          go_wp2_with fail
          refine (H2.out _).mono ?_
          rintro e w3 ⟨rfl, g1⟩
          have G3 := hide (none_trans G2.out g1)
          clear g1
          go_wp2_with fail
          refine (H3.out _ trivial).mono ?_
          rintro e w4 ⟨rfl, g1⟩
          have G4 := hide (none_trans G3.out g1)
          clear g1
          go_wp2_with fail
          refine (M1.out _).mono ?_
          rintro e w5 ⟨rfl, g1⟩
          have G5 := hide (none_trans G4.out g1)
          clear g1
          go_wp2_with fail
          refine (M2.out _).mono ?_
          rintro e w6 ⟨rfl, g1⟩
          have G6 := hide (none_trans G5.out g1)
          clear g1
          go_wp2_with fail
          go_ret
          exact ⟨rfl, G6.out⟩

end Go.Proofs.Ytphjafidencdeaa
