/- The reader: within, where part is known for one level less. -/
import Derived.Test.YtgpfjcogaheopaaXC
set_option linter.all false
namespace Go.Proofs.Ytgpfjcogaheopaa.Lx
open Go.RowKit
set_option maxRecDepth 100000

theorem Rs.add_ok {r : Rs} {k n : Nat} (h : r.add k = .ok n) : ∃ m, r = .ok m ∧ n = k + m := by
  cases r with
  | ok m => injection h with h; exact ⟨m, rfl, h.symm⟩
  | more => cases h
  | deep a => cases h
theorem until_le (c : UInt8) (esc : Bool) : ∀ (t : List UInt8) (n : Nat), untilR c esc t = .ok n → n ≤ t.length
  | [], n, h => by cases h
  | [b], n, h => by
    unfold untilR at h
    split at h
    · cases h
    · split at h
      · injection h with h; subst h; exact Nat.le_refl _
      · cases h
  | b :: d :: r, n, h => by
    unfold untilR at h
    split at h
    · obtain ⟨m, hm, rfl⟩ := Rs.add_ok h
      have := until_le c esc r m hm
      simp; omega
    · split at h
      · injection h with h; subst h; simp
      · obtain ⟨m, hm, rfl⟩ := Rs.add_ok h
        have := until_le c esc (d :: r) m hm
        simp at this ⊢; omega
theorem sums_le : ∀ (t : List UInt8) (o n : Nat), sumsR o t = .ok n → n ≤ t.length := by
  intro t
  induction t with
  | nil => intro o n h; cases o <;> cases h
  | cons b r ih =>
    intro o n h
    have hu : sumsR o (b :: r) = if b = 40 then (sumsR (o + 1) r).add 1 else if b ≠ 41 then (sumsR o r).add 1 else if 0 < o then (sumsR (o - 1) r).add 1 else if r.take 1 = [41] then .ok 2 else (sumsR o r).add 1 := by cases o <;> rfl
    rw [hu] at h
    rw [List.length_cons]
    split at h
    · obtain ⟨m, hm, rfl⟩ := Rs.add_ok h
      have := ih _ _ hm; omega
    · split at h
      · obtain ⟨m, hm, rfl⟩ := Rs.add_ok h
        have := ih _ _ hm; omega
      · split at h
        · obtain ⟨m, hm, rfl⟩ := Rs.add_ok h
          have := ih _ _ hm; omega
        · split at h
          · rename_i h2
            injection h with h
            have := congrArg List.length h2
            rw [List.length_take] at this
            simp at this
            omega
          · obtain ⟨m, hm, rfl⟩ := Rs.add_ok h
            have := ih _ _ hm; omega
theorem within_le {pf : List UInt8 → Rs} (hpf : ∀ t n, pf t = .ok n → n ≤ t.length) (e : UInt8) (plain : List UInt8) : ∀ (L : Nat) (t : List UInt8) (o n : Nat), t.length = L → withinR pf e plain o t = .ok n → n ≤ t.length := by
  intro L
  induction L using Nat.strongRecOn with
  | ind L ih =>
    intro t o n hL h
    match t, hL, h with
    | [], _, h => rw [within_nil] at h; cases h
    | c :: r, hL, h =>
      rw [List.length_cons] at hL ⊢
      rw [within_cons] at h
      split at h
      · split at h
        · injection h with h; omega
        · obtain ⟨m, hm, rfl⟩ := Rs.add_ok h
          have := ih _ (by omega) r _ _ rfl hm; omega
      · split at h
        · obtain ⟨m, hm, rfl⟩ := Rs.add_ok h
          have := ih _ (by omega) r _ _ rfl hm; omega
        · split at h
          · obtain ⟨m, hm, rfl⟩ := Rs.add_ok h
            have := ih _ (by omega) r _ _ rfl hm; omega
          · cases hp : pf (c :: r) with
            | more => rw [hp] at h; cases h
            | deep a => rw [hp] at h; cases h
            | ok q =>
              rw [hp] at h
              have h1 := hpf _ _ hp
              rw [List.length_cons] at h1
              obtain ⟨m, hm, rfl⟩ := Rs.add_ok h
              have := ih _ (by rw [List.length_drop]; omega) (r.drop (q - 1)) _ _ rfl hm
              rw [List.length_drop] at this
              omega
theorem take_len {t m : List UInt8} {k : Nat} (h : t.take k = m) : m.length ≤ t.length := by
  rw [← h, List.length_take]; omega
theorem part_le : ∀ (lv : Nat) (q : Bool) (t : List UInt8) (n : Nat), partR lv q t = .ok n → n ≤ t.length := by
  intro lv
  induction lv with
  | zero =>
    intro q t n h
    unfold partR at h
    split at h
    · cases h
    · injection h with h; omega
  | succ lv ih =>
    intro q t n h
    unfold partR at h
    have hw := fun q e p => within_le (ih q) e p
    split at h
    · split at h
      · split at h
        · cases h
        · injection h with h; omega
      · split at h
        · rename_i h9
          have h8 := take_len h9
          obtain ⟨m, hm, rfl⟩ := Rs.add_ok h
          have := until_le _ _ _ _ hm
          rw [List.length_drop] at this
          simp at h8; omega
        · split at h
          · rename_i h9
            have h8 := take_len h9
            obtain ⟨m, hm, rfl⟩ := Rs.add_ok h
            have := until_le _ _ _ _ hm
            rw [List.length_drop] at this
            simp at h8; omega
          · split at h
            · rename_i h9
              have h8 := take_len h9
              obtain ⟨m, hm, rfl⟩ := Rs.add_ok h
              have := hw _ _ _ _ _ _ _ rfl hm
              rw [List.length_drop] at this
              simp at h8; omega
            · split at h
              · rename_i h9
                have h8 := take_len h9
                obtain ⟨m, hm, rfl⟩ := Rs.add_ok h
                have := sums_le _ _ _ hm
                rw [List.length_drop] at this
                simp at h8; omega
              · split at h
                · rename_i h9
                  have h8 := take_len h9
                  obtain ⟨m, hm, rfl⟩ := Rs.add_ok h
                  have := hw _ _ _ _ _ _ _ rfl hm
                  rw [List.length_drop] at this
                  simp at h8; omega
                · rename_i b1 b2 b3 b4 b5 b6 b7
                  have h8 : 2 ≤ t.length := by
                    unfold begs at b1
                    simp only [Bool.or_eq_true, decide_eq_true_eq, Bool.and_eq_true] at b1
                    rcases b1 with (((b1 | b1) | b1) | b1) | ⟨_, b1 | b1⟩
                    · exact (b2 b1).elim
                    · exact (b3 b1).elim
                    · exact (b7 b1).elim
                    · have := take_len b1; simpa using this
                    · exact (b4 b1).elim
                    · exact (b5 b1).elim
                  split at h
                  · obtain ⟨m, hm, rfl⟩ := Rs.add_ok h
                    have := hw _ _ _ _ _ _ _ rfl hm
                    rw [List.length_drop] at this
                    omega
                  · obtain ⟨m, hm, rfl⟩ := Rs.add_ok h
                    have := hw _ _ _ _ _ _ _ rfl hm
                    rw [List.length_drop] at this
                    omega
    · injection h with h; omega

/-- What part does, at a level. -/
def PartOk (lv : Nat) : Prop := ∀ (rb d i : Nat) (q : Bool) (l : List UInt8) (w : World), RAt w rb l d → lv + d = 25 → i < l.length → l.length ≤ 1000000 →
  Calls Try.prog 64 #[.pointer (some ⟨rb, 0, none⟩), .int .i64 i, .bool q] w fun e w' => e = (partR lv q (l.drop i)).out i l.length ∧ w.grownBy w' (some rb) ∧ ∀ n, partR lv q (l.drop i) = .ok n → RAt w' rb l d
theorem RAt.setd {w : World} {rb : Nat} {l : List UInt8} {d : Nat} (h : RAt w rb l d) (d' : Nat) {x : Int} (hx : x = d') : RAt (w.setCell ⟨rb, 1, none⟩ (.int .i64 x)) rb l d' := by
  subst hx
  exact Blk.set_ h 1 _

set_option maxHeartbeats 4000000 in
theorem within_any (lv : Nat) (hp : PartOk lv) (rb d i : Nat) (e : UInt8) (plain : List UInt8) (q : Bool) (l : List UInt8) (w : World) (h : RAt w rb l d) (hd : lv + d + 1 = 25) (hi : i ≤ l.length) (hl : l.length ≤ 1000000) :
    Calls Try.prog 76 #[.pointer (some ⟨rb, 0, none⟩), .int .i64 i, .int .u8 e.toNat, sv plain, .bool q] w fun en w' => en = (withinR (partR lv q) e plain 0 (l.drop i)).out i l.length ∧ w.grownBy w' (some rb) ∧ ∀ n, withinR (partR lv q) e plain 0 (l.drop i) = .ok n → RAt w' rb l d := by
  have h1 := sz l
  obtain ⟨R, hR⟩ : ∃ R, (withinR (partR lv q) e plain 0 (l.drop i)).add i = R := ⟨_, rfl⟩
  have hout : (withinR (partR lv q) e plain 0 (l.drop i)).out i l.length = R.out 0 l.length := by
    rw [← hR]; cases withinR (partR lv q) e plain 0 (l.drop i) <;> simp [Rs.add, Rs.out]
  have hok : ∀ w', ((∃ n, R = .ok n) → RAt w' rb l d) → ∀ n, withinR (partR lv q) e plain 0 (l.drop i) = .ok n → RAt w' rb l d := fun w' hw n hn => hw ⟨i + n, by rw [← hR, hn]; rfl⟩
  suffices H : Calls Try.prog 76 #[.pointer (some ⟨rb, 0, none⟩), .int .i64 i, .int .u8 e.toNat, sv plain, .bool q] w fun en w' => en = R.out 0 l.length ∧ w.grownBy w' (some rb) ∧ ((∃ n, R = .ok n) → RAt w' rb l d) by
    refine H.mono ?_
    rintro en w' ⟨rfl, hg, hw⟩
    exact ⟨hout.symm, hg, hok w' hw⟩
  have HR0 := hide hR
  have Hp := hide hp
  have H0 := hide h
  have c0 := h.c0
  have c1 := h.c1
  have hz := Blk.frozen h 1
  have hlt := Blk.lt h
  have Hidx := hide (fun (c : UInt8) w' => idx26 ⟨plain.toArray⟩ c.toNat w')
  clear hR hout hok hp h
  unfold sv
  go_enter Try.func76, Try.ntmps76
  go_wp2_with fail
  have HS := hide (H0.out.setd (d + 1) (x := (d : Int) + 1) (by omega))
  have HGS := hide (only_setCell (only_refl w (some rb)) (p := ⟨rb, 1, none⟩) (.inl rfl) (.int .i64 ((d : Int) + 1)))
  clear c0 c1 hz hlt
  go_loopw [1, 11] (fun v u wr => ∃ k o : Nat, v = .int .i64 k ∧ u = .int .i64 o ∧ k ≤ l.length ∧ o ≤ k ∧ RAt wr rb l (d + 1) ∧ w.grownBy wr (some rb) ∧ (withinR (partR lv q) e plain o (l.drop k)).add k = R) (fun v _ _ => l.length + 1 - (intOf v).toNat)
  case atStart => exact ⟨i, 0, rfl, rfl, hi, Nat.zero_le _, HS.out, HGS.out, HR0.out⟩
  case round =>
    obtain ⟨k, o, rfl, rfl, hk, hok, hA, hG, hres⟩ := hrel
    have HA := hide hA
    have HG := hide hG
    have HR := hide hres
    have c0 := hA.c0
    have c1 := hA.c1
    have hz := Blk.frozen hA 1
    have hlt := Blk.lt hA
    clear hA hG hres HS HGS
    by_cases hlt2 : k < l.length
    · have q0 : decide ((k : Int) < (l.length : Int)) = true := by simp; omega
      have hat := str_at' l k hlt2
      have hib : (0 : Int) ≤ k ∧ (k : Int) < (l.length : Int) := by omega
      have hdr := drop_at hlt2
      obtain ⟨c, hc⟩ : ∃ c, l[k] = c := ⟨_, rfl⟩
      rw [hc] at hat hdr
      have hst := within_cons (partR lv q) e plain o c (l.drop (k + 1))
      rw [← hdr] at hst
      by_cases hce : c = e
      · have qce : ((c.toNat : Int) == (e.toNat : Int)) = true := by rw [hce]; simp
        rw [if_pos hce] at hst
        by_cases ho : o = 0
        · subst ho
          rw [if_pos rfl] at hst
          have Hst := hide hst
          clear hst hdr hc hce
          go_wp2_with fail
          refine bodyPost_ret (results_tmp rfl _ _ _) rfl ⟨?_, only_setCell HG.out (.inl rfl) _, fun _ => HA.out.setd d (by omega)⟩
          rw [← HR.out, Hst.out]
          simp [Rs.add, Rs.out]
        · obtain ⟨o2, rfl⟩ : ∃ o2, o = o2 + 1 := ⟨o - 1, by omega⟩
          rw [if_neg (by omega)] at hst
          have Hst := hide hst
          have qo : (((o2 : Int) + 1) == 0) = false := by rw [beq_eq_false_iff_ne]; omega
          have qo2 : ((o2 : Int) + 1 = 0) = False := by simp; omega
          clear hst hdr hc hce
          go_wp2_with fail
          go_roundw
          case rel => exact ⟨k + 1, o2, by go_num, by go_num, by omega, by omega, HA.out, HG.out, by rw [← HR.out, Hst.out, Rs.add_add]; rfl⟩
          case measure => simp [intOf]; omega
      rw [if_neg hce] at hst
      have qce : ((c.toNat : Int) == (e.toNat : Int)) = false := byte_ne hce
      by_cases h41 : e = 41 ∧ c = 40
      · rw [if_pos h41] at hst
        have Hst := hide hst
        obtain ⟨rfl, rfl⟩ := h41
        clear hst hdr hc hce
        go_wp2_with fail
        go_roundw
        case rel => exact ⟨k + 1, o + 1, by go_num, by go_num, by omega, by omega, HA.out, HG.out, by rw [← HR.out, Hst.out, Rs.add_add]⟩
        case measure => simp [intOf]; omega
      rw [if_neg h41] at hst
      have hw : ((e.toNat : Int) == 41) = false ∨ (((e.toNat : Int) == 41) = true ∧ ((c.toNat : Int) == 40) = false) := by
        by_cases he : e = 41
        · exact .inr ⟨by rw [he]; rfl, byte_ne (d := 40) (fun hh => h41 ⟨he, hh⟩)⟩
        · exact .inl (byte_ne (d := 41) he)
      have hx := fun w' => Hidx.out c w'
      have e1 : ((c.toNat : Int).toNat.toUInt8) = c := by simp
      rw [e1] at hx
      obtain ⟨x, hx0⟩ : ∃ x, Lib.indexByte (ByteArray.mk plain.toArray).data.toList c = x := ⟨_, rfl⟩
      rw [hx0] at hx
      have hsp : isIn plain c = decide (0 ≤ x) := by rw [← hx0]; unfold isIn; simp
      rw [hsp] at hst
      have Hx := hide hx
      by_cases h0 : 0 ≤ x
      · have qx : decide ((0 : Int) ≤ x) = true := by simpa using h0
        rw [if_pos qx] at hst
        have Hst := hide hst
        clear hst hdr hc hce h41 hx hx0 hsp e1
        rcases hw with q3 | ⟨q3, q4⟩
        all_goals
          go_wp2_with fail
          refine (Hx.out _).mono ?_
          rintro en w2 ⟨rfl, rfl⟩
          go_wp2_with fail
          go_roundw
          case rel => exact ⟨k + 1, o, by go_num, by go_num, by omega, by omega, HA.out, HG.out, by rw [← HR.out, Hst.out, Rs.add_add]⟩
          case measure => simp [intOf]; omega
      · have qx : decide ((0 : Int) ≤ x) = false := by simpa using h0
        rw [if_neg (by rw [qx]; decide)] at hst
        have hpt := fun w' hw' => Hp.out rb (d + 1) k q l w' hw' (by omega) hlt2 hl
        obtain ⟨P, hP⟩ : ∃ P, partR lv q (l.drop k) = P := ⟨_, rfl⟩
        rw [hP] at hst hpt
        have hpl : ∀ n, P = .ok n → k + n ≤ l.length := fun n hn => by
          have := part_le lv q (l.drop k) n (by rw [hP, hn])
          rw [List.length_drop] at this
          omega
        have Hst := hide hst
        have Hpt := hide (hpt wr HA.out)
        clear hst hdr hc hce h41 hx hx0 hsp e1 hpt hP
        cases P with
        | more =>
          unfold Rs.out at Hpt
          rcases hw with q3 | ⟨q3, q4⟩
          all_goals
            go_wp2_with fail
            refine (Hx.out _).mono ?_
            rintro en w2 ⟨rfl, rfl⟩
            go_wp2_with fail
            refine Hpt.out.mono ?_
            rintro en w3 ⟨rfl, hg3, _⟩
            refine And.intro rfl (And.intro ?_ (And.intro (only_trans HG.out hg3) ?_))
            · rw [← HR.out, Hst.out]; rfl
            · rintro ⟨n, hn⟩; rw [← HR.out, Hst.out] at hn; cases hn
        | deep a =>
          unfold Rs.out at Hpt
          rcases hw with q3 | ⟨q3, q4⟩
          all_goals
            go_wp2_with fail
            refine (Hx.out _).mono ?_
            rintro en w2 ⟨rfl, rfl⟩
            go_wp2_with fail
            refine Hpt.out.mono ?_
            rintro en w3 ⟨rfl, hg3, _⟩
            refine And.intro rfl (And.intro ?_ (And.intro (only_trans HG.out hg3) ?_))
            · rw [← HR.out, Hst.out]; simp [Rs.add, Rs.out]
            · rintro ⟨n, hn⟩; rw [← HR.out, Hst.out] at hn; cases hn
        | ok n =>
          have hn := hpl n rfl
          have hdd : (l.drop (k + 1)).drop (n - 1) = l.drop (k + max n 1) := by rw [List.drop_drop]; congr 1; omega
          have hst2 := Hst.out
          simp only [hdd] at hst2
          have Hst2 := hide hst2
          clear hst2 hdd hpl
          unfold Rs.out at Hpt
          rcases hw with q3 | ⟨q3, q4⟩
          all_goals
            go_wp2_with fail
            refine (Hx.out _).mono ?_
            rintro en w2 ⟨rfl, rfl⟩
            go_wp2_with fail
            refine Hpt.out.mono ?_
            rintro en w3 ⟨rfl, hg3, hok3⟩
            have HA3 := hide (hok3 n rfl)
            have HG3 := hide (only_trans HG.out hg3)
            clear hg3 hok3
            go_wp2_with (first | (refine wpList_max ((k + max n 1 : Nat) : Int) ((k : Int) + n) ((k : Int) + 1) rfl rfl (by omega) ?_))
            go_roundw
            case rel => exact ⟨k + max n 1, o, by go_num, by go_num, by omega, by omega, HA3.out, HG3.out, by rw [← HR.out, Hst2.out, Rs.add_add]⟩
            case measure => simp [intOf]; omega
    · have q0 : decide ((k : Int) < (l.length : Int)) = false := by simp; omega
      have hR : R = .more := by
        have := HR.out
        rw [List.drop_eq_nil_of_le (by omega), within_nil] at this
        exact this.symm
      subst hR
      have Hm := hide (more_any rb (d + 1) l wr HA.out)
      go_wp2_with fail
      refine Hm.out.mono ?_
      rintro en w1 ⟨rfl, rfl⟩
      exact post_panic rfl ⟨rfl, HG.out, fun ⟨n, hn⟩ => by cases hn⟩

end Go.Proofs.Ytgpfjcogaheopaa.Lx
