/- The walk of Type. -/
import Derived.Test.YtpabcopkecgphaaF
namespace Go.Proofs.Ytpabcopkecgphaa
open Go.RowKit

/-- What a round begins with. -/
theorem TtyIs.cells {b : Nat} {S : Nat → Prop} {st : TS} {w : World} (h : TtyIs w b S st) :
    ∃ a cap, w.cell? ⟨b, 1, none⟩ = some (.slice a st.typed.length cap) ∧ w.cell? ⟨b, 5, none⟩ = some (.int .i64 (waitOf st.lines : Nat)) ∧ w.frozen? ⟨b, 1, none⟩ = false := by
  obtain ⟨lv, tv, bv, pa, h, rfl⟩ := h
  obtain ⟨a, cap, rfl, _, _⟩ := h.parts.ot.form
  exact ⟨a, cap, h.blk.cell 1, h.blk.cell 5, h.blk.frozen 1⟩

theorem one_rub {s : TS} {c : UInt8} (h : c.toNat = 8 ∨ c.toNat = 127) : s.one c = s.rub := by unfold TS.one; rw [if_pos h]
theorem one_kill {s : TS} {c : UInt8} (h : c.toNat = 21) : s.one c = s.kill := by unfold TS.one; rw [if_neg (by omega), if_pos h]
theorem one_end {s : TS} {c : UInt8} (h : c.toNat = 4) (ht : s.typed ≠ []) : s.one c = s.come s.typed := by unfold TS.one; rw [if_neg (by omega), if_neg (by omega), if_pos ⟨h, ht⟩]
theorem one_full {s : TS} {c : UInt8} (h : ¬ (c.toNat = 8 ∨ c.toNat = 127)) (h2 : c.toNat ≠ 21) (h3 : ¬ (c.toNat = 4 ∧ s.typed ≠ [])) (hr : s.room = false) : s.one c = s := by unfold TS.one; rw [if_neg h, if_neg h2, if_neg h3, if_pos hr]
theorem one_end0 {s : TS} {c : UInt8} (h : c.toNat = 4) (ht : s.typed = []) (hr : s.room = true) : s.one c = s.come [] := by unfold TS.one; rw [if_neg (by omega), if_neg (by omega), if_neg (fun e => e.2 ht), if_neg (by rw [hr]; decide), if_pos h]
theorem one_feed {s : TS} {c : UInt8} (h : c.toNat = 10 ∨ c.toNat = 13) (hr : s.room = true) : s.one c = s.feed := by unfold TS.one; rw [if_neg (by omega), if_neg (by omega), if_neg (by omega), if_neg (by rw [hr]; decide), if_neg (by omega), if_pos h]
theorem one_put {s : TS} {c : UInt8} (h1 : ¬ (c.toNat = 8 ∨ c.toNat = 127)) (h2 : c.toNat ≠ 21) (h3 : c.toNat ≠ 4) (h4 : ¬ (c.toNat = 10 ∨ c.toNat = 13)) (hr : s.room = true) (hs : shown c = true) (hl : s.typed.length < 256) : s.one c = s.put c := by
  unfold TS.one; rw [if_neg h1, if_neg h2, if_neg (fun e => h3 e.1), if_neg (by rw [hr]; decide), if_neg h3, if_neg h4, if_pos hs, if_pos hl]
theorem one_more {s : TS} {c : UInt8} (h1 : ¬ (c.toNat = 8 ∨ c.toNat = 127)) (h2 : c.toNat ≠ 21) (h3 : c.toNat ≠ 4) (h4 : ¬ (c.toNat = 10 ∨ c.toNat = 13)) (hr : s.room = true) (hs : shown c = true) (hl : ¬ s.typed.length < 256) : s.one c = s := by
  unfold TS.one; rw [if_neg h1, if_neg h2, if_neg (fun e => h3 e.1), if_neg (by rw [hr]; decide), if_neg h3, if_neg h4, if_pos hs, if_neg hl]
theorem one_other {s : TS} {c : UInt8} (h1 : ¬ (c.toNat = 8 ∨ c.toNat = 127)) (h2 : c.toNat ≠ 21) (h3 : c.toNat ≠ 4) (h4 : ¬ (c.toNat = 10 ∨ c.toNat = 13)) (hr : s.room = true) (hs : ¬ shown c = true) : s.one c = s := by
  unfold TS.one; rw [if_neg h1, if_neg h2, if_neg (fun e => h3 e.1), if_neg (by rw [hr]; decide), if_neg h3, if_neg h4, if_neg hs]
theorem TtyIs.ownT {b : Nat} {S : Nat → Prop} {st : TS} {w : World} (h : TtyIs w b S st) {v : Value} (hv : w.cell? ⟨b, 1, none⟩ = some v) : Own w 5 1 v st.typed.length (bcells st.typed) 0 := by
  obtain ⟨lv, tv, bv, pa, h, rfl⟩ := h
  have h1 := h.blk.cell 1
  rw [hv] at h1
  have h2 : v = tv := by simpa [tcs] using h1
  subst h2
  exact h.parts.ot
theorem TtyIs.putT {b : Nat} {S : Nat → Prop} {st : TS} {w w2 : World} (h : TtyIs w b S st) {v v' : Value} (hv : w.cell? ⟨b, 1, none⟩ = some v) (o : Obj) (c : UInt8)
    (ho : Own w2 5 1 v' (st.typed.length + 1) (bcells st.typed ++ bcells [c]) 0) (hc : Chg (fun k => v.ownBlock = some k) (w.alloc o) w2) (hn : ∀ k, v'.ownBlock = some k → v.ownBlock = some k ∨ (w.alloc o).heap.size ≤ k) :
    TtyTo w (w2.setCell ⟨b, 1, none⟩ v') b S { st with typed := st.typed ++ [c] } ∧ w2.cell? ⟨b, 1, none⟩ = some v ∧ w2.frozen? ⟨b, 1, none⟩ = false := by
  obtain ⟨lv, tv, bv, pa, h, rfl⟩ := h
  have h1 := h.blk.cell 1
  rw [hv] at h1
  have h2 : v = tv := by simpa [tcs] using h1
  subst h2
  have hb2 := (h.blk.alloc o).chg hc (fun e => h.parts.nt e)
  have hp2 := ((h.parts.alloc o).newT (ls := st.typed ++ [c]) (h.blk.alloc o).lt (by rw [bcells_append, List.length_append]; exact ho) hc hn).far 1 v'
  refine ⟨TtyTo.mk ⟨hb2.set_ 1 v', hp2, h.p⟩ ((((Chg.refl (tOwn b lv v bv) w).alloc o).trans hc (fun _ _ e => .inr (.inr (.inl e)))).setCell (p := ⟨b, 1, none⟩) (.inl (.inl rfl)) _) ?_, hb2.cell 1, hb2.frozen 1⟩
  rintro k (hk | hk | hk)
  · exact .inl (.inl hk)
  · exact (hn k hk).imp (fun e => .inr (.inl e)) (fun e => by rw [World.size_alloc] at e; omega)
  · exact .inl (.inr (.inr hk))
theorem eqI {n : Nat} {m : Int} (h : (n : Int) = m) : ((n : Int) == m) = true := by rw [h]; simp
theorem neI {n : Nat} {m : Int} (h : (n : Int) ≠ m) : ((n : Int) == m) = false := by
  simp only [beq_eq_false_iff_ne, ne_eq]
  omega
theorem TtyIs.str {b : Nat} {S : Nat → Prop} {st : TS} {w : World} (h : TtyIs w b S st) {v : Value} (hv : w.cell? ⟨b, 1, none⟩ = some v) : (convert 27 9 v).run Try.prog w = .ok (.string ⟨st.typed.toArray⟩) w := by
  obtain ⟨lv, tv, bv, pa, h, rfl⟩ := h
  have h1 := h.blk.cell 1
  rw [hv] at h1
  have h2 : v = tv := by simpa [tcs] using h1
  subst h2
  exact h.parts.ot.str (by kernel_rfl) (by kernel_rfl) (by kernel_rfl)

set_option maxRecDepth 100000 in
set_option maxHeartbeats 4000000 in
theorem type_any {b : Nat} {S : Nat → Prop} {st : TS} {w : World} (h : TtyIs w b S st) (hi : st.Inv) (s : ByteArray) (hs : s.size ≤ 4096) (hsc : st.screen.length + 800 * s.size ≤ 1099511620000) :
    Calls Try.prog 11 #[.pointer (some ⟨b, 0, none⟩), .string s] w fun e w' => e = .returned (.tuple #[]) ∧ TtyTo w w' b S (st.type s.data.toList) := by
  have H := hide h
  have Hi := hide hi
  clear h hi
  go_enter Try.func11, Try.ntmps11
  go_wp2_with fail
  go_loopg [9] s.size (fun g v wr => ∃ k : Nat, k ≤ s.size ∧ g = s.size - k ∧ v = .int .i64 k ∧ TtyTo w wr b S (st.type (s.data.toList.take k)))
  case atStart => exact ⟨0, by omega, by omega, rfl, TtyTo.refl H.out⟩
  case round =>
    obtain ⟨k, hk, hg, rfl, hT⟩ := hrel
    by_cases hlt : k < s.size
    · obtain ⟨st1, hst1⟩ : ∃ st1, st1 = st.type (s.data.toList.take k) := ⟨_, rfl⟩
      have hi1 : st1.Inv := hst1 ▸ type_inv Hi.out _
      have hs1 : st1.screen.length ≤ st.screen.length + 800 * k := by
        rw [hst1]
        have := type_screen Hi.out (s.data.toList.take k)
        rw [List.length_take] at this
        omega
      have hnext : st.type (s.data.toList.take (k + 1)) = st1.one s[k] := by
        rw [hst1, ← type_one]
        congr 1
        rw [List.take_succ_eq_append_getElem (by simpa using hlt)]
        rfl
      rw [← hst1] at hT
      obtain ⟨S1, h1, h2, h3⟩ := hT
      obtain ⟨ta, tcap, c1, c5, z1⟩ := h1.cells
      obtain ⟨n, hn⟩ : ∃ n : Nat, n = st1.typed.length := ⟨_, rfl⟩
      obtain ⟨m, hm⟩ : ∃ m : Nat, m = waitOf st1.lines := ⟨_, rfl⟩
      have hnm : m + n ≤ 1024 := by rw [hn, hm]; exact hi1.a
      have hn2 : n ≤ 256 := by rw [hn]; exact hi1.b
      rw [← hn] at c1
      rw [← hm] at c5
      have hsc1 : st1.screen.length + 800 ≤ 1099511620000 := by omega
      have hstr : ∀ q, (convert 27 9 (.slice ta n tcap)).run Try.prog (wr.drewN q) = .ok (.string ⟨st1.typed.toArray⟩) (wr.drewN q) := fun q => (h1.drewN q).str c1
      have H1 := hide h1
      have H2 := hide h2
      have H3 := hide h3
      have Hn := hide hn
      have Hm := hide hm
      have Hi1 := hide hi1
      have Hnext := hide hnext
      have Hstr := hide hstr
      clear h1 h2 h3 hn hm hi1 hnext hst1 hs1 hstr
      obtain ⟨c, hc⟩ : ∃ c, c = s[k] := ⟨_, rfl⟩
      by_cases e1 : c.toNat = 8 ∨ c.toNat = 127
      · have Hone := hide (one_rub (s := st1) e1)
        have q : (((s[k].toNat : Int) == 8) = true) ∨ (((s[k].toNat : Int) == 8) = false ∧ ((s[k].toNat : Int) == 127) = true) := by
          rw [hc] at e1
          rcases e1 with e1 | e1
          · left; rw [e1]; rfl
          · right; rw [e1]; exact ⟨rfl, rfl⟩
        have Hc := hide hc
        clear hc e1
        rcases q with q | ⟨q, q'⟩
        all_goals
          go_wp2_with fail
          go_quiet (fail)
          go_wp2_with fail
          go_at_call 21
          refine (rubs_any (H1.out.drewN _) (by omega)).mono ?_
          rintro e w1 ⟨rfl, h4⟩
          have H4 := hide h4
          clear h4
          go_wp2
          go_roundg (s.size - (k + 1))
          case measure => omega
          case rel => exact ⟨k + 1, by omega, rfl, rfl, by rw [Hnext.out, ← Hc.out, Hone.out]; exact TtyTo.sub H2.out H3.out _ H4.out⟩
      have q1 : ((s[k].toNat : Int) == 8) = false := neI (by rw [← hc]; omega)
      have q2 : ((s[k].toNat : Int) == 127) = false := neI (by rw [← hc]; omega)
      by_cases e2 : c.toNat = 21
      · have Hone := hide (one_kill (s := st1) e2)
        have q3 : ((s[k].toNat : Int) == 21) = true := eqI (by rw [← hc]; omega)
        have Hc := hide hc
        clear hc e1 e2
        go_wp2_with fail
        go_quiet (fail)
        go_wp2_with fail
        rename_i nq
        obtain ⟨wo, rfl⟩ : ∃ wo : World, wo = wr := ⟨_, rfl⟩
        go_loopg [] n (fun g wi => ∃ st2, TtyTo (wo.drewN nq) wi b S1 st2 ∧ st2.kill = st1.kill ∧ st2.typed.length = g ∧ st2.screen.length + 3 * g ≤ 1099511621000)
        case atStart => exact ⟨st1, TtyTo.refl (H1.out.drewN _), rfl, Hn.out.symm, by omega⟩
        case round =>
          obtain ⟨st2, hT2, hk2, hl2, hs2⟩ := hrel
          obtain ⟨S2, g1, g2, g3⟩ := hT2
          have G1 := hide g1
          have G2 := hide g2
          have G3 := hide g3
          have Hk2 := hide hk2
          have Hl2 := hide hl2
          clear g1 g2 g3 hk2 hl2
          by_cases ht : st2.typed = []
          · have Ht := hide ht
            clear ht
            go_wp2_with fail
            go_at_call 21
            refine (rubs_none G1.out Ht.out).mono ?_
            rintro e w1 ⟨rfl, hw1⟩
            have Hw1 := hide hw1
            clear hw1
            go_wp2
            go_roundg (s.size - (k + 1))
            case measure => omega
            case rel => exact ⟨k + 1, by omega, rfl, rfl, by rw [Hnext.out, ← Hc.out, Hone.out, ← Hk2.out, kill_nil _ Ht.out]; exact TtyTo.sub H2.out H3.out _ ⟨S2, by rw [Hw1.out]; exact G1.out, G2.out, by rw [Hw1.out]; exact G3.out⟩⟩
          · have Ht := hide ht
            clear ht
            go_wp2_with fail
            go_at_call 21
            refine (rubs_some G1.out Ht.out (by have := List.length_pos_iff.2 Ht.out; have := Hl2.out; omega)).mono ?_
            rintro e w1 ⟨rfl, hw1⟩
            have Hw1 := hide hw1
            clear hw1
            go_wp2
            have hpos := List.length_pos_iff.2 Ht.out
            have hr := rub_screen st2
            have hl2 := Hl2.out
            go_roundg (gk - 1)
            case measure => omega
            case rel => exact ⟨st2.rub, TtyTo.then G2.out G3.out Hw1.out, by rw [rub_kill _ Ht.out]; exact Hk2.out, by rw [rub_typed, List.length_dropLast]; omega, by omega⟩
      have q3 : ((s[k].toNat : Int) == 21) = false := neI (by rw [← hc]; omega)
      by_cases e3 : c.toNat = 4 ∧ st1.typed ≠ []
      · have Hone := hide (one_end (s := st1) e3.1 e3.2)
        have q4 : ((s[k].toNat : Int) == 4) = true := eqI (by rw [← hc]; omega)
        have hn0 : 0 < n := by rw [Hn.out]; exact List.length_pos_iff.2 e3.2
        have hw1 : waitOf st1.lines ≤ 4096 := by have := Hm.out; omega
        have hsz : (ByteArray.mk st1.typed.toArray).size ≤ 4096 := by have := Hn.out; simp [ByteArray.size]; omega
        have Hsz := hide hsz
        have Hw1 := hide hw1
        have Hc := hide hc
        clear hc e1 e2 e3 hsz hw1
        go_wp2_with fail
        go_quiet (fail)
        go_wp2_with (refine wpList_convert (.string ⟨st1.typed.toArray⟩) (Hstr.out _) ?_)
        go_at_call 22
        refine (comes_any (H1.out.drewN _) _ Hsz.out Hw1.out).mono ?_
        rintro e w1 ⟨rfl, h4⟩
        have H4 := hide h4
        clear h4
        go_wp2
        go_roundg (s.size - (k + 1))
        case measure => omega
        case rel => exact ⟨k + 1, by omega, rfl, rfl, by rw [Hnext.out, ← Hc.out, Hone.out]; exact TtyTo.sub H2.out H3.out _ H4.out⟩
      have q4 : (((s[k].toNat : Int) == 4) = false) ∨ (((s[k].toNat : Int) == 4) = true ∧ n = 0 ∧ st1.typed = []) := by
        by_cases e4 : c.toNat = 4
        · right
          have ht : st1.typed = [] := Classical.byContradiction fun h => e3 ⟨e4, h⟩
          exact ⟨eqI (by rw [← hc]; omega), by rw [Hn.out, ht]; rfl, ht⟩
        · left
          exact neI (by rw [← hc]; omega)
      by_cases hr : m + n < 1024
      · have hroom : st1.room = true := by have := Hn.out; have := Hm.out; unfold TS.room; simp; omega
        have q5 : decide ((m : Int) + n < 1024) = true := by simp; omega
        rcases q4 with q4 | ⟨q4, hn0, ht0⟩
        · have e4 : c.toNat ≠ 4 := by rw [hc]; simp at q4; omega
          by_cases e5 : c.toNat = 10 ∨ c.toNat = 13
          · have Hone := hide (one_feed (s := st1) e5 hroom)
            have q6 : (((s[k].toNat : Int) == 10) = true) ∨ (((s[k].toNat : Int) == 10) = false ∧ ((s[k].toNat : Int) == 13) = true) := by
              rw [hc] at e5
              rcases e5 with e5 | e5
              · left; rw [e5]; rfl
              · right; rw [e5]; exact ⟨rfl, rfl⟩
            have hw1 : waitOf st1.lines ≤ 4096 := by have := Hm.out; omega
            have hsz : (ByteArray.mk st1.typed.toArray).size ≤ 256 := by have := Hn.out; simp [ByteArray.size]; omega
            have hcat : (ByteArray.mk st1.typed.toArray ++ ⟨#[10]⟩) = ⟨(st1.typed ++ [10]).toArray⟩ := by apply ByteArray.ext; simp
            have hsz2 : (ByteArray.mk (st1.typed ++ [10]).toArray).size ≤ 4096 := by have := Hn.out; simp [ByteArray.size]; omega
            have Hsz := hide hsz
            have Hsz2 := hide hsz2
            have Hcat := hide hcat
            have Hw1 := hide hw1
            have Hc := hide hc
            clear hc e1 e2 e3 e4 e5 hsz hsz2 hcat hw1
            rcases q6 with q6 | ⟨q6, q7⟩
            all_goals
              go_wp2_with fail
              go_quiet (fail)
              go_wp2_with (first | (refine wpList_convert (.string ⟨st1.typed.toArray⟩) (Hstr.out _) ?_) | (refine wpList_concat ⟨st1.typed.toArray⟩ ⟨#[10]⟩ rfl rfl (by have := Hsz.out; show _ + 1 ≤ _; omega) ?_; rw [Hcat.out]))
              go_at_call 22
              refine (comes_any (H1.out.drewN _) _ Hsz2.out Hw1.out).mono ?_
              rintro e w1 ⟨rfl, h4⟩
              obtain ⟨S4, g1, g2, g3⟩ := h4
              have G1 := hide g1
              have G2 := hide g2
              have G3 := hide g3
              clear g1 g2 g3
              go_wp2_with fail
              go_at_call 23
              refine (writeByte_any G1.out 10 (by show st1.screen.length + 1 ≤ _; omega)).mono ?_
              rintro e w2 ⟨rfl, h4⟩
              have H4 := hide h4
              clear h4
              go_wp2
              go_roundg (s.size - (k + 1))
              case measure => omega
              case rel => exact ⟨k + 1, by omega, rfl, rfl, by rw [Hnext.out, ← Hc.out, Hone.out]; exact TtyTo.sub H2.out H3.out _ (TtyTo.then G2.out G3.out H4.out)⟩
          have q6 : ((s[k].toNat : Int) == 10) = false := neI (by rw [← hc]; omega)
          have q7 : ((s[k].toNat : Int) == 13) = false := neI (by rw [← hc]; omega)
          have hq : ∀ x : Nat, (s[k].toNat : Int) = x ↔ c.toNat = x := by intro x; rw [hc]; omega
          have Hc := hide hc
          by_cases e6 : shown c = true
          · have q8 : (((s[k].toNat : Int) == 9) = true) ∨ (((s[k].toNat : Int) == 9) = false ∧ (32 : Int) ≤ (s[k].toNat : Int) ∧ (s[k].toNat : Int) ≤ 126) := by
              by_cases e9 : c.toNat = 9
              · left; exact eqI (by rw [← Hc.out]; omega)
              · right
                simp only [shown, Bool.or_eq_true, Bool.and_eq_true, beq_iff_eq, decide_eq_true_eq] at e6
                refine ⟨neI (by rw [← Hc.out]; omega), ?_, ?_⟩ <;> rw [← Hc.out] <;> omega
            by_cases hl : n < 256
            · have Hone := hide (one_put e1 (by omega) e4 e5 hroom e6 (by have := Hn.out; omega))
              have q9 : decide ((n : Int) < 256) = true := by simp; omega
              have hext : s.extract k (k + 1) = ⟨#[s[k]]⟩ := by
                apply ByteArray.ext
                rw [ByteArray.data_extract]
                apply Array.ext'
                rw [Array.toList_extract, List.extract_eq_take_drop, List.drop_eq_getElem_cons (by simpa using hlt)]
                simp
                rfl
              have hown := H1.out.ownT c1
              rw [← Hn.out] at hown
              have Hown := hide hown
              have Hext := hide hext
              clear hc hq e1 e2 e3 e4 e5 e6 hext hown
              rcases q8 with q8 | ⟨q8, q10, q11⟩
              all_goals
                go_wp2_with fail
                go_quiet (fail)
                rename_i nq
                have hnew : ∀ j u, (bcells [s[k]])[j]? = some u → ((wr.drewN nq).alloc (.cells #[.int .u8 s[k].toNat] 5)).cell? ((⟨(wr.drewN nq).heap.size, 0, none⟩ : Addr).add j) = some u := by
                  intro j u hu
                  cases j with
                  | zero => simp [bcells] at hu; subst hu; exact World.cell?_alloc_new (wr.drewN nq) _ _ 0
                  | succ j => simp [bcells] at hu
                have Hnew := hide hnew
                clear hnew
                go_wp2_with (at_builtin; refine wpList_appAt 5 (.int .u8 0) 1 1 (by kernel_rfl) info5 rfl (.slice ta n tcap) n (bcells st1.typed) 0 (.slice (some ⟨(wr.drewN nq).heap.size, 0, none⟩) 1 1) 1 (bcells [s[k]]) rfl rfl (Hown.out.alloc _) (by omega) (Src.ofSlice (e' := 5) _ (by kernel_rfl) _ _ _ _ rfl Hnew.out (bcells_one _)) (by unfold maxLen; omega) (by omega) ?_)
                intro v' w2 ho hcc hnn _
                obtain ⟨a', cap', rfl, _, _⟩ := ho.form
                obtain ⟨hT2, d1, y1⟩ := (H1.out.drewN nq).putT (v := .slice ta n tcap) c1 _ s[k] (by rw [← Hn.out]; exact ho) hcc hnn
                obtain ⟨S4, g1, g2, g3⟩ := hT2
                have G1 := hide g1
                have G2 := hide g2
                have G3 := hide g3
                clear g1 g2 g3 ho hcc hnn
                go_wp2_with fail
                rw [Hext.out]
                go_at_call 24
                refine (shows_any G1.out ⟨#[s[k]]⟩ (by show st1.screen.length + 1 ≤ _; omega)).mono ?_
                rintro e w3 ⟨rfl, h4⟩
                have H4 := hide h4
                clear h4
                go_wp2
                go_roundg (s.size - (k + 1))
                case measure => omega
                case rel => exact ⟨k + 1, by omega, rfl, rfl, by rw [Hnext.out, ← Hc.out, Hone.out, Hc.out]; exact TtyTo.sub H2.out H3.out _ (TtyTo.then G2.out G3.out H4.out)⟩
            · have Hone := hide (one_more e1 (by omega) e4 e5 hroom e6 (by have := Hn.out; omega))
              have q9 : decide ((n : Int) < 256) = false := by simp; omega
              clear hc hq e1 e2 e3 e4 e5 e6
              rcases q8 with q8 | ⟨q8, q10, q11⟩
              all_goals
                go_wp2_with fail
                go_quiet (fail)
                go_wp2
                go_roundg (s.size - (k + 1))
                case measure => omega
                case rel => exact ⟨k + 1, by omega, rfl, rfl, by rw [Hnext.out, ← Hc.out, Hone.out]; exact TtyTo.sub H2.out H3.out _ (TtyTo.refl (H1.out.drewN _))⟩
          · have Hone := hide (one_other e1 (by omega) e4 e5 hroom e6)
            have q8 : (((s[k].toNat : Int) == 9) = false) ∧ (¬ (32 : Int) ≤ (s[k].toNat : Int) ∨ ((32 : Int) ≤ (s[k].toNat : Int) ∧ ¬ (s[k].toNat : Int) ≤ 126)) := by
              simp only [shown, Bool.or_eq_true, Bool.and_eq_true, beq_iff_eq, decide_eq_true_eq] at e6
              refine ⟨neI (by rw [← Hc.out]; omega), ?_⟩
              rw [← Hc.out]
              omega
            clear hc hq e1 e2 e3 e4 e5 e6
            obtain ⟨q8, q10 | ⟨q10, q11⟩⟩ := q8
            all_goals
              go_wp2_with fail
              go_quiet (fail)
              go_wp2
              go_roundg (s.size - (k + 1))
              case measure => omega
              case rel => exact ⟨k + 1, by omega, rfl, rfl, by rw [Hnext.out, ← Hc.out, Hone.out]; exact TtyTo.sub H2.out H3.out _ (TtyTo.refl (H1.out.drewN _))⟩
        · have e4 : c.toNat = 4 := by rw [hc]; simp at q4; omega
          have Hone := hide (one_end0 e4 ht0 hroom)
          have hw1 : waitOf st1.lines ≤ 4096 := by have := Hm.out; omega
          have Hw1 := hide hw1
          have Hc := hide hc
          subst hn0
          have q6 : decide ((m : Int) < 1024) = true := by simp; omega
          clear hc e1 e2 e3 e4 hw1 ht0
          go_wp2_with fail
          go_quiet (fail)
          go_wp2_with fail
          go_at_call 22
          refine (comes_any (H1.out.drewN _) ⟨#[]⟩ (by decide) Hw1.out).mono ?_
          rintro e w1 ⟨rfl, h4⟩
          have H4 := hide h4
          clear h4
          go_wp2
          go_roundg (s.size - (k + 1))
          case measure => omega
          case rel => exact ⟨k + 1, by omega, rfl, rfl, by rw [Hnext.out, ← Hc.out, Hone.out]; exact TtyTo.sub H2.out H3.out _ H4.out⟩
      · have hroom : st1.room = false := by have := Hn.out; have := Hm.out; unfold TS.room; simp; omega
        have q5 : decide ((m : Int) + n < 1024) = false := by simp; omega
        have Hone := hide (one_full (c := c) e1 e2 e3 hroom)
        have Hc := hide hc
        clear hc e1 e2 e3
        rcases q4 with q4 | ⟨q4, hn0, ht0⟩
        · go_wp2_with fail
          go_quiet (fail)
          go_wp2
          go_roundg (s.size - (k + 1))
          case measure => omega
          case rel => exact ⟨k + 1, by omega, rfl, rfl, by rw [Hnext.out, ← Hc.out, Hone.out]; exact TtyTo.sub H2.out H3.out _ (TtyTo.refl (H1.out.drewN _))⟩
        · subst hn0
          have q6 : decide ((m : Int) < 1024) = false := by simp; omega
          go_wp2_with fail
          go_quiet (fail)
          go_wp2
          go_roundg (s.size - (k + 1))
          case measure => omega
          case rel => exact ⟨k + 1, by omega, rfl, rfl, by rw [Hnext.out, ← Hc.out, Hone.out]; exact TtyTo.sub H2.out H3.out _ (TtyTo.refl (H1.out.drewN _))⟩
    · have hk2 : s.size ≤ k := by omega
      have hks : s.data.toList.take k = s.data.toList := List.take_of_length_le (by simpa using hk2)
      rw [hks] at hT
      have HT := hide hT
      have Hk := hide hlt
      clear hT hlt hks
      go_wp2
      go_returns
      exact ⟨rfl, HT.out⟩

end Go.Proofs.Ytpabcopkecgphaa
