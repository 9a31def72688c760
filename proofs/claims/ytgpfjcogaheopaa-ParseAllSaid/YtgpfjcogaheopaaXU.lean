/- The document's All. -/
import Derived.Test.YtgpfjcogaheopaaXS
import Derived.Test.YtgpfjcogaheopaaXR
set_option linter.all false
namespace Go.Proofs.Ytgpfjcogaheopaa.Lx
open Go.RowKit
set_option maxRecDepth 100000
/-- The document's tokens so far. -/
structure RA (w w' : World) (v : Value) (acc : List Tok) : Prop where
 tk : Own w' 41 3 v acc.length (tcs acc) 0
 new : ∀ b, v.ownBlock = some b → w.heap.size ≤ b
 gr : w.grownBy w' none
theorem RA.grown {w w1 w2 : World} {v : Value} {acc : List Tok} (h : RA w w1 v acc) (hg : w1.grownBy w2 none) : RA w w2 v acc :=
 ⟨h.tk.chg (Chg.of_grown hg (fun k hk => by cases hk) : Chg nobody w1 w2) (fun _ _ e => e), h.new, none_trans h.gr hg⟩
theorem RA.alloc {w w1 : World} {v : Value} {acc : List Tok} (h : RA w w1 v acc) (o : Obj) : RA w (w1.alloc o) v acc := ⟨h.tk.alloc o, h.new, only_alloc h.gr o⟩
theorem RA.set {w w1 : World} {v : Value} {acc : List Tok} (h : RA w w1 v acc) {p : Addr} (hp : v.ownBlock ≠ some p.block) (hw : w.heap.size ≤ p.block) (u : Value) : RA w (w1.setCell p u) v acc := ⟨h.tk.far hp u, h.new, none_setCell h.gr hw u⟩
theorem RA.app {w W w' : World} {v v' : Value} {acc : List Tok} {x : Tok} (h : RA w W v acc) (ho : Own w' 41 3 v' (acc.length + 1) (tcs acc ++ x.cells) 0) (hc : Chg (fun b => v.ownBlock = some b) W w') (hn : ∀ b, v'.ownBlock = some b → v.ownBlock = some b ∨ W.heap.size ≤ b) : RA w w' v' (acc ++ [x]) := by
 refine ⟨?_, fun b hb => ?_, ?_⟩
 ·rw [List.length_append, tcs_snoc]; exact ho
 ·rcases hn b hb with e | e
  ·exact h.new b e
  ·exact Nat.le_trans h.gr.size e
 ·exact ((Chg.of_grown h.gr (fun k hk => by cases hk) : Chg nobody w W).trans hc (fun i hi hb => by have := h.new i hb; omega)).grown (fun _ _ h => h)
theorem RA.post {w w' : World} {l : List UInt8} {v : Value} {acc : List Tok} (h : RA w w' v acc) : AllPost w l (.ok acc) (.returned (.tuple #[v, .int .i64 0, .int .i64 0])) w' := ⟨⟨v, rfl, h.tk, h.new⟩, h.gr⟩
theorem blank_zero {c : UInt8} {r : List UInt8} (h : blankF (c :: r) = 0) : c ≠ 32 ∧ c ≠ 9 ∧ c ≠ 35 ∧ ¬ (c :: r).take 2 = [92, 10] := by
 rw [blank_cons] at h
 split at h
 ·omega
 ·rename_i h1
  split at h
  ·omega
  ·rename_i h2
   split at h
   ·rename_i h3
    rw [h3] at h
    simp [] at h
   ·rename_i h3
    exact ⟨fun e => h1 (.inl e), fun e => h1 (.inr e), h3, h2⟩
set_option maxHeartbeats 1000000 in
theorem all_dlong (l : List UInt8) (w : World) (hl : 4096 < l.length) (hm : l.length ≤ 9223372036854775807) : Calls Try.prog 14 #[sv l] w fun e w' => AllPost w l (.err 0 10) e w' := by
 have h1 := sz l
 have q : decide ((4096 : Int) < (l.length : Int)) = true := decide_eq_true (by omega)
 unfold sv
 go_enter Try.func14, Try.ntmps14
 go_wp2_with fail
 go_ret3
 exact ⟨rfl, only_refl w none⟩
/-- How the document's All ends. -/
def RPost (w : World) (l : List UInt8) (R : Ar) : Ending → World → Prop := fun e w' => AllPost w l (finAr l R) e w'
set_option maxHeartbeats 8000000 in
theorem all_dshort (l : List UInt8) (w : World) (hl : l.length ≤ 4096) (R : Ar) (hR : allGo l (l.length + 1) (blankF l) [] = R) : Calls Try.prog 14 #[sv l] w (RPost w l R) := by
 have h1 := sz l
 have q : decide ((4096 : Int) < (l.length : Int)) = false := decide_eq_false (by omega)
 have hext : ∀ n, (ByteArray.mk l.toArray).extract n l.length = ⟨(l.drop n).toArray⟩ := fun n => ext_drop l n _ rfl
 have HR0 := hide hR
 have Hsg := hide (fun k w' => sign_d (l.drop k) w' (by rw [List.length_drop]; omega))
 have Hwd := hide (fun k w' (hk : k ≤ l.length) => word_d (l.drop k) k w' (by rw [List.length_drop]; omega) (by rw [List.length_drop]; omega))
 have Hb2 := hide (fun k w' => begins_any (l.drop k) [92, 10] w' (by decide) (by rw [List.length_drop]; omega))
 unfold sv at Hb2 Hsg Hwd
 clear hR
 unfold sv
 go_enter Try.func14, Try.ntmps14
 go_wp2_with fail
 go_loopw [5, 6] (fun v5 v6 wr => ∃ (f i : Nat) (acc : List Tok), v6 = .int .i64 i ∧ i ≤ l.length ∧ l.length < i + f ∧ acc.length ≤ 400 ∧ RA w wr v5 acc ∧ allGo l f (i + blankF (l.drop i)) acc = R) (fun _ v6 _ => l.length + 1 - (intOf v6).toNat)
 case atStart => exact ⟨l.length + 1, 0, [], rfl, Nat.zero_le _, by omega, by simp, ⟨Own.nil _ _ _ _, fun b hb => by simp [Value.ownBlock] at hb, only_refl w none⟩, by rw [List.drop_zero, Nat.zero_add]; exact HR0.out⟩
 case round =>
  obtain ⟨fuel, i, acc, rfl, hi, hfu, h400, hRA, hres⟩ := hrel
  have HRA := hide hRA
  have HR := hide hres
  obtain ⟨va, cap, rfl, hcap, hmx⟩ := hRA.tk.form
  clear hRA hres HR0
  by_cases hlt : i < l.length
  ·have q0 : decide ((i : Int) < (l.length : Int)) = true := decide_eq_true (by omega)
   have hat := str_at' l i hlt
   have hib : (0 : Int) ≤ i ∧ (i : Int) < (l.length : Int) := by omega
   have hib2 : (0 : Int) ≤ i ∧ (i : Int) ≤ (l.length : Int) := by omega
   have hdr := drop_at hlt
   obtain ⟨c, hc⟩ : ∃ c, l[i] = c := ⟨_, rfl⟩
   rw [hc] at hat hdr
   have hB2 := Hb2.out i
   by_cases hbl : 0 < blankF (l.drop i)
   ·have hlt2 : i < i + blankF (l.drop i) := by omega
    obtain ⟨hkl, hAl, hcase⟩ := blank_first hlt2 rfl
    rw [hc] at hcase
    rcases hcase with ⟨hc1 | hc1, hn⟩ | ⟨hc1, hk1, ⟨hk2, hc2⟩, hn⟩ | ⟨hc1, hn, h0⟩
    ·subst hc1
     have Hn := hide hn
     clear hn hc hdr hB2 hbl hlt2 hAl
     go_wp2_with fail
     go_roundw
     case rel => exact ⟨fuel, i + 1, acc, by go_num, by omega, by omega, h400, HRA.out, by rw [Hn.out]; exact HR.out⟩
     case measure => simp [intOf]; omega
    ·subst hc1
     have Hn := hide hn
     clear hn hc hdr hB2 hbl hlt2 hAl
     go_wp2_with fail
     go_roundw
     case rel => exact ⟨fuel, i + 1, acc, by go_num, by omega, by omega, h400, HRA.out, by rw [Hn.out]; exact HR.out⟩
     case measure => simp [intOf]; omega
    ·subst hc1
     have hdr2 := drop_at hk2
     rw [hc2] at hdr2
     have ht2 : (l.drop i).take 2 = [92, 10] := by rw [hdr, hdr2]; rfl
     have HB2 := hide (show ∀ w2, Calls Try.prog 26 #[.string ⟨(l.drop i).toArray⟩, .string ⟨#[92, 10]⟩] w2 fun e w3 => e = .returned (.bool true) ∧ w3 = w2 from fun w2 => by have := hB2 w2; rw [show ([92, 10] : List UInt8).length = 2 from rfl, decide_eq_true ht2] at this; exact this)
     have Hn := hide hn
     clear hn hc hdr hB2 hbl hlt2 hAl hdr2 hc2 ht2
     go_wp2_with fail
     refine (HB2.out _).mono ?_
     rintro e w2 ⟨rfl, rfl⟩
     go_wp2_with fail
     go_roundw
     case rel => exact ⟨fuel, i + 2, acc, by go_num, by omega, by omega, h400, HRA.out, by rw [Hn.out]; exact HR.out⟩
     case measure => simp [intOf]; omega
    ·subst hc1
     have ht2 : ¬ (l.drop i).take 2 = [92, 10] := by rw [hdr]; intro e; injection e with e _; exact absurd e (by decide)
     have HB2 := hide (show ∀ w2, Calls Try.prog 26 #[.string ⟨(l.drop i).toArray⟩, .string ⟨#[92, 10]⟩] w2 fun e w3 => e = .returned (.bool false) ∧ w3 = w2 from fun w2 => by have := hB2 w2; rw [show ([92, 10] : List UInt8).length = 2 from rfl, decide_eq_false ht2] at this; exact this)
     obtain ⟨A, hA⟩ : ∃ A, i + blankF (l.drop i) = A := ⟨_, rfl⟩
     rw [hA] at hn h0 hAl hlt2
     have HR2 := HR.out
     rw [hA] at HR2
     have HR3 := hide HR2
     have Hn := hide hn
     have H0 := hide h0
     clear hn h0 hc hdr hB2 hbl ht2 HR HR2 hA
     go_wp2_with fail
     refine (HB2.out _).mono ?_
     rintro e w2 ⟨rfl, rfl⟩
     go_wp2_with fail
     go_loopw [6] (fun v6 wp => ∃ k : Nat, v6 = .int .i64 k ∧ i ≤ k ∧ k ≤ A ∧ k + ((l.drop k).takeWhile (· != 10)).length = A ∧ wp = w2) (fun v6 _ => A + 1 - (intOf v6).toNat)
     case atStart => exact ⟨i, rfl, Nat.le_refl _, by omega, Hn.out, rfl⟩
     case round =>
      obtain ⟨k, rfl, hik, hkA, hn2, rfl⟩ := hrel
      by_cases hka : k < A
      ·obtain ⟨hkl2, hne, hn3⟩ := note_next hn2 hka
       have q1 : decide ((k : Int) < (l.length : Int)) = true := decide_eq_true (by omega)
       have hat := str_at' l k hkl2
       have hkb : (0 : Int) ≤ k ∧ (k : Int) < (l.length : Int) := by omega
       obtain ⟨c, hc⟩ : ∃ c, l[k] = c := ⟨_, rfl⟩
       rw [hc] at hat hne
       have q10 : ((c.toNat : Int) == 10) = false := byte_ne (d := 10) hne
       have q10' : ((c.toNat : Int) != 10) = true := by simp only [bne, q10]; rfl
       have Hn3 := hide hn3
       clear hn3 hn2 hc hne
       go_wp2_with fail
       go_roundw
       case rel => exact ⟨k + 1, by go_num, by omega, by omega, Hn3.out, trivial⟩
       case measure => simp [intOf]; omega
      ·obtain rfl : k = A := by omega
       by_cases hkl2 : k < l.length
       ·have q1 : decide ((k : Int) < (l.length : Int)) = true := decide_eq_true (by omega)
        have hat := str_at' l k hkl2
        have hkb : (0 : Int) ≤ k ∧ (k : Int) < (l.length : Int) := by omega
        have h10 : l[k] = 10 := by
         rw [drop_at hkl2, List.takeWhile_cons] at hn2
         split at hn2
         ·simp at hn2
         ·rename_i hh; simpa using hh
        rw [h10] at hat
        clear hn2 h10
        go_wp2_with fail
        go_roundw
        case rel => exact ⟨fuel, k, acc, rfl, by omega, by omega, h400, HRA.out, by rw [H0.out]; exact HR3.out⟩
        case measure => simp [intOf]; omega
       ·have q1 : decide ((k : Int) < (l.length : Int)) = false := decide_eq_false (by omega)
        clear hn2
        go_wp2_with fail
        go_roundw
        case rel => exact ⟨fuel, k, acc, rfl, by omega, by omega, h400, HRA.out, by rw [H0.out]; exact HR3.out⟩
        case measure => simp [intOf]; omega
   ·have hb0 : blankF (l.drop i) = 0 := by omega
    have hb0' := hb0
    rw [hdr] at hb0'
    obtain ⟨n32, n9, n35, n92⟩ := blank_zero hb0'
    rw [← hdr] at n92
    have q32 : ((c.toNat : Int) == 32) = false := byte_ne (d := 32) n32
    have q9 : ((c.toNat : Int) == 9) = false := byte_ne (d := 9) n9
    have q35 : ((c.toNat : Int) == 35) = false := byte_ne (d := 35) n35
    have HB2 := hide (show ∀ w2, Calls Try.prog 26 #[.string ⟨(l.drop i).toArray⟩, .string ⟨#[92, 10]⟩] w2 fun e w3 => e = .returned (.bool false) ∧ w3 = w2 from fun w2 => by have := hB2 w2; rw [show ([92, 10] : List UInt8).length = 2 from rfl, decide_eq_false n92] at this; exact this)
    obtain ⟨f, rfl⟩ : ∃ f, fuel = f + 1 := ⟨fuel - 1, by omega⟩
    have hstep := HR.out
    have hi0 : i + blankF (l.drop i) = i := by omega
    rw [hi0, allGo_step, if_pos hlt] at hstep
    have hpos := fun k s (h : nextF (l.drop i) = .tok k s) => next_pos (drop_ne hlt) hb0 h
    have hd0 : (l.drop i).getD 0 0 = c := by rw [hdr]; rfl
    have hd1 : (l.drop i).getD 1 0 = (l.drop (i + 1)).getD 0 0 := by rw [hdr]; rfl
    have hdl : (l.drop i).length = l.length - i := List.length_drop
    clear hi0 hb0 hb0' n32 n9 n35 n92 hc hdr hB2 HR hbl
    by_cases h4 : acc.length = 400
    ·rw [if_pos h4] at hstep
     have Hst := hide hstep
     have q4 : ((acc.length : Int) == 400) = true := by rw [beq_iff_eq]; omega
     clear hstep hpos hd0 hd1 hdl
     go_wp2_with fail
     refine (HB2.out _).mono ?_
     rintro e w2 ⟨rfl, rfl⟩
     go_wp2_with fail
     go_ret3
     show AllPost w l (finAr l R) _ _
     rw [← Hst.out]
     exact ⟨rfl, HRA.out.gr⟩
    rw [if_neg h4] at hstep
    have q4 : ((acc.length : Int) == 400) = false := by rw [beq_eq_false_iff_ne]; omega
    have h4' : acc.length < 400 := by omega
    have hS := Hsg.out i
    have hW := fun w' => Hwd.out i w' hi
    obtain ⟨S, hS2⟩ : ∃ S, signF (l.drop i) = S := ⟨_, rfl⟩
    rw [hS2] at hS
    have zS := sz S
    by_cases hne : S = []
    ·subst hne
     have HS := hide hS
     cases hwd : wordR (l.drop i) with
     | more =>
      have hnx : nextF (l.drop i) = .more := by unfold nextF; rw [if_neg (fun h => h hS2), hwd]
      rw [hnx] at hstep
      rw [hwd] at hW
      have HW := hide hW
      have Hst := hide hstep
      clear hS hW hstep hnx hwd hpos hd0 hd1 hdl hS2 h4
      go_wp2_with fail
      refine (HB2.out _).mono ?_
      rintro e w2 ⟨rfl, rfl⟩
      go_wp2_with fail
      refine (HS.out _).mono ?_
      rintro e w3 ⟨rfl, g3⟩
      have HG3 := hide g3
      clear g3
      go_wp2_with fail
      refine (HW.out _).mono ?_
      rintro e w4 ⟨rfl, g4⟩
      have HG4 := hide (none_trans HG3.out g4)
      clear g4
      unfold endsV endsL
      go_wp2_with fail
      go_ret3
      show AllPost w l (finAr l R) _ _
      rw [← Hst.out]
      exact ⟨rfl, only_alloc (none_trans HRA.out.gr HG4.out) _⟩
     | deep a =>
      have hnx : nextF (l.drop i) = .deep a := by unfold nextF; rw [if_neg (fun h => h hS2), hwd]
      rw [hnx] at hstep
      rw [hwd] at hW
      have HW := hide hW
      have Hst := hide hstep
      clear hS hW hstep hnx hwd hpos hd0 hd1 hdl hS2 h4
      go_wp2_with fail
      refine (HB2.out _).mono ?_
      rintro e w2 ⟨rfl, rfl⟩
      go_wp2_with fail
      refine (HS.out _).mono ?_
      rintro e w3 ⟨rfl, g3⟩
      have HG3 := hide g3
      clear g3
      go_wp2_with fail
      refine (HW.out _).mono ?_
      rintro e w4 ⟨rfl, g4⟩
      have HG4 := hide (none_trans HG3.out g4)
      clear g4
      unfold endsV endsL
      go_wp2_with fail
      go_quiet (fail)
      go_wp2_with fail
      go_ret3
      show AllPost w l (finAr l R) _ _
      rw [← Hst.out]
      exact ⟨rfl, only_drewN (only_alloc (none_trans HRA.out.gr HG4.out) _) _⟩
     | ok n =>
      obtain ⟨Iu, hIO⟩ : ∃ Iu, ioB (l.drop i) n = Iu := ⟨_, rfl⟩
      obtain ⟨TT, hTT⟩ : ∃ TT, (l.drop i).take n = TT := ⟨_, rfl⟩
      have hnx : nextF (l.drop i) = .tok (if Iu = true then 3 else 1) TT := by unfold nextF; rw [if_neg (fun h => h hS2), hwd, ← hIO, ← hTT]
      have hnl := word_le _ (l.drop i) n rfl hwd
      obtain ⟨hp1, hp2⟩ := hpos _ _ hnx
      have hTl : TT.length = n := by rw [← hTT, List.length_take]; omega
      rw [hnx] at hstep
      rw [hwd] at hW
      have hmid := ext_mid l i n (by omega)
      rw [hTT] at hmid
      have hin : i + n ≤ l.length := by omega
      have hmid2 : (ByteArray.mk l.toArray).extract i ((i : Int) + (n : Int)).toNat = ⟨TT.toArray⟩ := by rw [show ((i : Int) + (n : Int)).toNat = i + n from by omega, hmid]
      have hin2 : (0 : Int) ≤ i ∧ (i : Int) ≤ (i : Int) + n ∧ (i : Int) + n ≤ (l.length : Int) := by omega
      have hst2 : allGo l f (i + n + blankF (l.drop (i + n))) (acc ++ [⟨if Iu = true then 3 else 1, TT, i⟩]) = R := by rw [← hTl]; exact hstep
      have hn1 : 1 ≤ n := by omega
      obtain ⟨nx, hnxb⟩ : ∃ nx : UInt8, (l.drop (i + 1)).getD 0 0 = nx := ⟨_, rfl⟩
      have hio : Iu = decide (n = 1 ∧ 48 ≤ c.toNat ∧ c.toNat ≤ 57 ∧ 1 < l.length - i ∧ (nx = 60 ∨ nx = 62)) := by
       rw [← hIO]; unfold ioB; rw [hd0, hd1, hdl, hnxb]
      have hn0 : ¬ i + 1 < l.length → nx = 0 := fun h => by rw [← hnxb, List.drop_eq_nil_of_le (by omega)]; rfl
      have hn4 : ∀ h : i + 1 < l.length, l[i + 1] = nx := fun h => by rw [← hnxb, drop_at h]; rfl
      have zT := sz TT
      have HW := hide hW
      have Hst := hide hst2
      have Hio := hide hio
      have Hn0 := hide hn0
      have Hn4 := hide hn4
      clear hS hW hstep hnx hwd hpos hd0 hd1 hdl hS2 h4 hIO hTT hst2 hp1 hp2 hTl hmid hnxb hio hn0 hn4 hnl hin
      have hin : i + n ≤ l.length := by omega
      go_wp2_with fail
      refine (HB2.out _).mono ?_
      rintro e w2 ⟨rfl, rfl⟩
      go_wp2_with fail
      refine (HS.out _).mono ?_
      rintro e w3 ⟨rfl, g3⟩
      have HRA3 := hide (HRA.out.grown g3)
      clear g3
      go_wp2_with fail
      refine (HW.out _).mono ?_
      rintro e w9 ⟨rfl, g4⟩
      have HRA9 := hide (HRA3.out.grown g4)
      clear g4
      unfold endsV endsL
      go_upto_if 96 with (fail)
      go_cut [11] (fun v wc => v = .int .u8 nx.toNat ∧ RA w wc (.slice va acc.length cap) acc ∧ Blk wc w9.heap.size 61 #[.int .i64 n, .bool false, .bool false, .int .i64 0] ∧ Blk wc (w9.heap.size + 1) 41 #[.int .i64 1, .string ⟨TT.toArray⟩, .int .i64 i])
      case first =>
       have hr : RA w ((w9.alloc (.cells #[.int .i64 n, .bool false, .bool false, .int .i64 0] 61)).alloc (.cells #[.int .i64 1, .string ⟨TT.toArray⟩, .int .i64 i] 41)) (.slice va acc.length cap) acc := (HRA9.out.alloc _).alloc _
       have hb9 := (Blk.new w9 61 #[.int .i64 n, .bool false, .bool false, .int .i64 0]).alloc (.cells #[.int .i64 1, .string ⟨TT.toArray⟩, .int .i64 i] 41)
       have hb10 := Blk.new (w9.alloc (.cells #[.int .i64 n, .bool false, .bool false, .int .i64 0] 61)) 41 #[.int .i64 1, .string ⟨TT.toArray⟩, .int .i64 i]
       rw [World.size_alloc] at hb10
       have Hr := hide hr
       have Hb9 := hide hb9
       have Hb10 := hide hb10
       clear hr hb9 hb10
       by_cases hi1 : i + 1 < l.length
       ·have q1 : decide ((i : Int) + 1 < (l.length : Int)) = true := decide_eq_true (by omega)
        have hat2 := str_at' l (i + 1) hi1
        rw [Hn4.out hi1] at hat2
        have hib3 : (0 : Int) ≤ (i : Int) + 1 ∧ (i : Int) + 1 < (l.length : Int) := by omega
        go_wp2_with fail
        go_meet
        case rel => exact ⟨rfl, Hr.out, Hb9.out, Hb10.out⟩
       ·have q1 : decide ((i : Int) + 1 < (l.length : Int)) = false := decide_eq_false (by omega)
        have hnx0 := Hn0.out hi1
        subst hnx0
        go_wp2_with fail
        go_meet
        case rel => exact ⟨rfl, Hr.out, Hb9.out, Hb10.out⟩
      case rest =>
       obtain ⟨rfl, hrc, hb9, hb10⟩ := hcut
       have HRc := hide hrc
       have HB9 := hide hb9
       have HB10 := hide hb10
       have d0 := Blk.cell hb9 0
       have z0 := Blk.frozen hb9 0
       have lb := Blk.lt hb9
       have e0 := Blk.cell hb10 0
       have e1 := Blk.cell hb10 1
       have e2 := Blk.cell hb10 2
       have y0 := Blk.frozen hb10 0
       have lb10 := Blk.lt hb10
       clear hrc hb9 hb10
       go_upto_region 29 with (fail)
       go_cut [119] (fun v w2 => v = .bool Iu ∧ w2 = wc)
       case first =>
        have hio := Hio.out
        by_cases a1 : n = 1
        ·subst a1
         by_cases a2 : 48 ≤ c.toNat
         ·have b2 : decide ((48 : Int) ≤ (c.toNat : Int)) = true := decide_eq_true (by omega)
          by_cases a3 : c.toNat ≤ 57
          ·have b3 : decide ((c.toNat : Int) ≤ 57) = true := decide_eq_true (by omega)
           by_cases a4 : nx = 60
           ·have hlt5 : 1 < l.length - i := by
             apply Classical.byContradiction
             intro h
             rw [Hn0.out (by omega)] at a4
             exact absurd a4 (by decide)
            rw [decide_eq_true ⟨rfl, a2, a3, hlt5, .inl a4⟩] at hio
            subst a4 hio
            go_wp2_with fail
            go_meet
            case rel => exact ⟨rfl, rfl⟩
           ·by_cases a5 : nx = 62
            ·have hlt5 : 1 < l.length - i := by
              apply Classical.byContradiction
              intro h
              rw [Hn0.out (by omega)] at a5
              exact absurd a5 (by decide)
             rw [decide_eq_true ⟨rfl, a2, a3, hlt5, .inr a5⟩] at hio
             subst a5 hio
             go_wp2_with fail
             go_meet
             case rel => exact ⟨rfl, rfl⟩
            ·have b4 : ((nx.toNat : Int) == 60) = false := byte_ne (d := 60) a4
             have b5 : ((nx.toNat : Int) == 62) = false := byte_ne (d := 62) a5
             rw [decide_eq_false (fun h => by rcases h.2.2.2.2 with h | h; exact a4 h; exact a5 h)] at hio
             subst hio
             clear a4 a5
             go_wp2_with fail
             go_meet
             case rel => exact ⟨rfl, rfl⟩
          ·have b3 : decide ((c.toNat : Int) ≤ 57) = false := decide_eq_false (by omega)
           rw [decide_eq_false (fun h => a3 h.2.2.1)] at hio
           subst hio
           go_wp2_with fail
           go_meet
           case rel => exact ⟨rfl, rfl⟩
         ·have b2 : decide ((48 : Int) ≤ (c.toNat : Int)) = false := decide_eq_false (by omega)
          rw [decide_eq_false (fun h => a2 h.2.1)] at hio
          subst hio
          go_wp2_with fail
          go_meet
          case rel => exact ⟨rfl, rfl⟩
        ·have b1 : ((n : Int) == 1) = false := by rw [beq_eq_false_iff_ne]; omega
         rw [decide_eq_false (fun h => a1 h.1)] at hio
         subst hio
         clear a1
         go_wp2_with fail
         go_meet
         case rel => exact ⟨rfl, rfl⟩
       case rest =>
        obtain ⟨rfl, rfl⟩ := hcut
        have hvb : (Value.slice va acc.length cap).ownBlock ≠ some w9.heap.size := fun e => by have := HRA9.out.tk.lt e; omega
        have hvb2 : (Value.slice va acc.length cap).ownBlock ≠ some (w9.heap.size + 1) := fun e => by have := HRA9.out.tk.lt e; omega
        have hw9 : w.heap.size ≤ w9.heap.size + 1 := by have := HRA9.out.gr.size; omega
        have Hvb := hide hvb
        have Hvb2 := hide hvb2
        clear hvb hvb2
        cases Iu with
        | true =>
         have HR5 := hide (RA.alloc (HRc.out.set (p := ⟨w9.heap.size + 1, 0, none⟩) Hvb2.out (by show w.heap.size ≤ w9.heap.size + 1; omega) (.int .i64 3)) (.cells #[.int .i64 3, .string ⟨TT.toArray⟩, .int .i64 i] 41))
         have hmd := Own.made (wc.setCell ⟨w9.heap.size + 1, 0, none⟩ (.int .i64 3)) #[.int .i64 3, .string ⟨TT.toArray⟩, .int .i64 i] 41 3 1 0 rfl (by unfold maxLen; omega)
         rw [World.size_setCell] at hmd
         have hsrc := Own.src (P := Try.prog) (tx := 37) (e' := 41) hmd (by kernel_rfl) (by
          intro u hu
          simp only [List.mem_cons, List.not_mem_nil, or_false] at hu
          rcases hu with rfl | rfl | rfl <;> rfl)
         have Hsrc := hide hsrc
         clear hsrc hmd
         go_wp2_with (at_builtin; refine wpList_appAt 41 (.agg #[.int .i64 0, .string ⟨#[]⟩, .int .i64 0]) 3 32 Try.underlying37 info41 rfl (.slice va acc.length cap) acc.length (tcs acc) 0 _ 1 [.int .i64 3, .string ⟨TT.toArray⟩, .int .i64 i] rfl rfl HR5.out.tk (by omega) Hsrc.out (by unfold maxLen; omega) (by omega) ?_; intro v' w' ho hc hn _; obtain ⟨fo, fc, rfl, _, _⟩ := Own.form ho; (have HRA := hide (RA.app (x := ⟨3, TT, i⟩) HR5.out ho hc hn)); (have hk9 : Blk w' w9.heap.size 61 #[.int .i64 n, .bool false, .bool false, .int .i64 0] := Blk.chg (Blk.alloc (Blk.far HB9.out (p := ⟨w9.heap.size + 1, 0, none⟩) (by show w9.heap.size ≠ w9.heap.size + 1; omega) _) _) hc (fun e => Hvb.out e)); (have d0' := Blk.cell hk9 0); (have z0' := Blk.frozen hk9 0); (have lb' := Blk.lt hk9); (clear hk9); (clear ho hc hn))
         go_roundw
         case rel => exact ⟨f, i + n, acc ++ [⟨3, TT, i⟩], by go_num, by omega, by omega, by rw [List.length_append]; simp; omega, HRA.out, Hst.out⟩
         case measure => simp [intOf]; omega
        | false =>
         have HR5 := hide (RA.alloc HRc.out (.cells #[.int .i64 1, .string ⟨TT.toArray⟩, .int .i64 i] 41))
         have hmd := Own.made (wc) #[.int .i64 1, .string ⟨TT.toArray⟩, .int .i64 i] 41 3 1 0 rfl (by unfold maxLen; omega)
         have hsrc := Own.src (P := Try.prog) (tx := 37) (e' := 41) hmd (by kernel_rfl) (by
          intro u hu
          simp only [List.mem_cons, List.not_mem_nil, or_false] at hu
          rcases hu with rfl | rfl | rfl <;> rfl)
         have Hsrc := hide hsrc
         clear hsrc hmd
         go_wp2_with (at_builtin; refine wpList_appAt 41 (.agg #[.int .i64 0, .string ⟨#[]⟩, .int .i64 0]) 3 32 Try.underlying37 info41 rfl (.slice va acc.length cap) acc.length (tcs acc) 0 _ 1 [.int .i64 1, .string ⟨TT.toArray⟩, .int .i64 i] rfl rfl HR5.out.tk (by omega) Hsrc.out (by unfold maxLen; omega) (by omega) ?_; intro v' w' ho hc hn _; obtain ⟨fo, fc, rfl, _, _⟩ := Own.form ho; (have HRA := hide (RA.app (x := ⟨1, TT, i⟩) HR5.out ho hc hn)); (have hk9 : Blk w' w9.heap.size 61 #[.int .i64 n, .bool false, .bool false, .int .i64 0] := Blk.chg (Blk.alloc (HB9.out) _) hc (fun e => Hvb.out e)); (have d0' := Blk.cell hk9 0); (have z0' := Blk.frozen hk9 0); (have lb' := Blk.lt hk9); (clear hk9); (clear ho hc hn))
         go_roundw
         case rel => exact ⟨f, i + n, acc ++ [⟨1, TT, i⟩], by go_num, by omega, by omega, by rw [List.length_append]; simp; omega, HRA.out, Hst.out⟩
         case measure => simp [intOf]; omega
    ·have hnx : nextF (l.drop i) = .tok 2 S := by unfold nextF; rw [hS2, if_pos hne]
     obtain ⟨hp1, hp2⟩ := hpos _ _ hnx
     rw [hnx] at hstep
     have qe : S.isEmpty = false := by cases S with | nil => exact absurd rfl hne | cons => rfl
     have hin : i + S.length ≤ l.length := by omega
     have HS := hide hS
     have Hst := hide hstep
     clear hS hW hstep hnx hpos hd0 hd1 hdl hS2 h4
     go_wp2_with fail
     refine (HB2.out _).mono ?_
     rintro e w2 ⟨rfl, rfl⟩
     go_wp2_with fail
     refine (HS.out _).mono ?_
     rintro e w3 ⟨rfl, g3⟩
     have HRA3 := hide (HRA.out.grown g3)
     clear g3 hne
     have HR5 := hide (RA.alloc HRA3.out (.cells #[.int .i64 2, .string ⟨S.toArray⟩, .int .i64 i] 41))
     have hmd := Own.made (w3) #[.int .i64 2, .string ⟨S.toArray⟩, .int .i64 i] 41 3 1 0 rfl (by unfold maxLen; omega)
     have hsrc := Own.src (P := Try.prog) (tx := 37) (e' := 41) hmd (by kernel_rfl) (by
      intro u hu
      simp only [List.mem_cons, List.not_mem_nil, or_false] at hu
      rcases hu with rfl | rfl | rfl <;> rfl)
     have Hsrc := hide hsrc
     clear hsrc hmd
     go_wp2_with (at_builtin; refine wpList_appAt 41 (.agg #[.int .i64 0, .string ⟨#[]⟩, .int .i64 0]) 3 32 Try.underlying37 info41 rfl (.slice va acc.length cap) acc.length (tcs acc) 0 _ 1 [.int .i64 2, .string ⟨S.toArray⟩, .int .i64 i] rfl rfl HR5.out.tk (by omega) Hsrc.out (by unfold maxLen; omega) (by omega) ?_; intro v' w' ho hc hn _; obtain ⟨fo, fc, rfl, _, _⟩ := Own.form ho; (have HRA := hide (RA.app (x := ⟨2, S, i⟩) HR5.out ho hc hn)); (clear ho hc hn))
     go_roundw
     case rel => exact ⟨f, i + S.length, acc ++ [⟨2, S, i⟩], by go_num, by omega, by omega, by rw [List.length_append]; simp; omega, HRA.out, Hst.out⟩
     case measure => simp [intOf]; omega
  ·have q0 : decide ((i : Int) < (l.length : Int)) = false := decide_eq_false (by omega)
   have hR : R = .ok acc := by
    have := HR.out
    rw [List.drop_eq_nil_of_le (by omega), blank_nil, Nat.add_zero] at this
    cases fuel with
    | zero => exact this.symm
    | succ f => rw [allGo_step, if_neg hlt] at this; exact this.symm
   subst hR
   have HR5 := hide (RA.alloc HRA.out (.cells #[.int .i64 4, .string ⟨#[]⟩, .int .i64 l.length] 41))
   have hmd := Own.made (wr) #[.int .i64 4, .string ⟨#[]⟩, .int .i64 l.length] 41 3 1 0 rfl (by unfold maxLen; omega)
   have hsrc := Own.src (P := Try.prog) (tx := 37) (e' := 41) hmd (by kernel_rfl) (by
    intro u hu
    simp only [List.mem_cons, List.not_mem_nil, or_false] at hu
    rcases hu with rfl | rfl | rfl <;> rfl)
   have Hsrc := hide hsrc
   clear hsrc hmd
   go_wp2_with (at_builtin; refine wpList_appAt 41 (.agg #[.int .i64 0, .string ⟨#[]⟩, .int .i64 0]) 3 32 Try.underlying37 info41 rfl (.slice va acc.length cap) acc.length (tcs acc) 0 _ 1 [.int .i64 4, .string ⟨#[]⟩, .int .i64 l.length] rfl rfl HR5.out.tk (by omega) Hsrc.out (by unfold maxLen; omega) (by omega) ?_; intro v' w' ho hc hn _; obtain ⟨fo, fc, rfl, _, _⟩ := Own.form ho; (have HRA7 := hide (RA.app (x := ⟨4, [], l.length⟩) HR5.out ho hc hn)); (clear ho hc hn))
   go_ret3
   exact HRA7.out.post
theorem all_d (l : List UInt8) (w : World) (hm : l.length ≤ 9223372036854775807) : Calls Try.prog 14 #[sv l] w fun e w' => AllPost w l (allF l) e w' := by
 by_cases h : 4096 < l.length
 ·have : allF l = .err 0 10 := by unfold allF; rw [if_pos h]
  rw [this]
  exact all_dlong l w h hm
 ·rw [allF_fin l h]
  exact all_dshort l w (by omega) _ rfl
end Go.Proofs.Ytgpfjcogaheopaa.Lx
