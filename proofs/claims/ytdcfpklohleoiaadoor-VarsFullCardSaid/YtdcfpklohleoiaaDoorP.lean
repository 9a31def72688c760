/- The walk of VarsFull. -/
import Derived.Test.YtdcfpklohleoiaaDoorO
namespace Go.Proofs.YtdcfpklohleoiaaDoor
open Go.RowKit
set_option maxRecDepth 100000

theorem run_str2 (w : World) (X Y : UInt8) : (convert 42 9 (.slice (some ⟨w.heap.size, 0, none⟩) 2 2)).run Tryd.prog (w.alloc (.cells #[.int .u8 X.toNat, .int .u8 Y.toNat] 5)) = .ok (.string ⟨#[X, Y]⟩) (w.alloc (.cells #[.int .u8 X.toNat, .int .u8 Y.toNat] 5)) :=
  run_string_of_bytes (w.alloc (.cells #[.int .u8 X.toNat, .int .u8 Y.toNat] 5)) (e := 5) (by kernel_rfl) (by kernel_rfl) (by kernel_rfl) ⟨w.heap.size, 0, none⟩ [X, Y] 2 (fun i hi => by
    have hb := Blk.new w 5 #[.int .u8 X.toNat, .int .u8 Y.toNat]
    rw [Addr.add_lit, Nat.zero_add, Blk.cell hb]
    have hi : i < 2 := hi
    match i, hi with
    | 0, _ => rfl
    | 1, _ => rfl)

set_option maxHeartbeats 4000000 in
theorem full_loop (val : List UInt8) (w : World) (which : Int) (hwb : -9223372036854775808 ≤ which ∧ which ≤ 9223372036854775807) (hv : val.length ≤ 1024) :
    Calls Tryd.prog 4 #[.int .i64 which, sv val] w fun e w' => e = .returned (.bool true) ∧ w.grownBy w' none := by
  have Hsh := hide (fun w' => shown_any w')
  have Hset := hide (fun k (hk : k < 40) v w (ho : Own w 35 4 v (envK val k).length (vcs (envK val k)) 0) => set_any (envK val k) (nameI k) val v w (wfK val hv k (by omega)) ho (by show 3 ≤ _; omega) (by omega))
  have h1 := sz val
  have q1 : decide ((1024 : Int) < (val.length : Int)) = false := decide_eq_false (by omega)
  unfold sv envV at Hset
  unfold sv
  go_enter Tryd.func4, Tryd.ntmps4
  go_wp2_with fail
  refine (Hsh.out _).mono ?_
  rintro e w1 ⟨rfl, g1⟩
  have HG1 := hide (only_alloc g1 (.cells #[.slice none 0 0, .slice none 0 0, .string ⟨#[]⟩] 27))
  have hle1 := g1.size
  have HE1 := hide (⟨Blk.new w1 27 _, Own.nil _ _ _ _⟩ : EnvAt (w1.alloc (.cells #[.slice none 0 0, .slice none 0 0, .string ⟨#[]⟩] 27)) w1.heap.size (.slice none 0 0) (envK val 0))
  clear g1
  go_wp2_with fail
  go_loopw [7] (fun v7 wr => ∃ (k : Nat) (v : Value), v7 = .int .i64 k ∧ k ≤ 40 ∧ EnvAt wr w1.heap.size v (envK val k) ∧ w.grownBy wr none) (fun v7 _ => 40 - (intOf v7).toNat)
  case atStart => exact ⟨0, _, rfl, by omega, HE1.out, HG1.out⟩
  case round =>
    obtain ⟨k, v, rfl, hk, hE, hG⟩ := hrel
    have HE := hide hE
    have HG := hide hG
    obtain ⟨av, cv, rfl, _, _⟩ := hE.own.form
    obtain ⟨d0, d1, d2⟩ := res27 hE.blk
    have z0 := Blk.frozen hE.blk 0
    have z1 := Blk.frozen hE.blk 1
    have z2 := Blk.frozen hE.blk 2
    have lb := Blk.lt hE.blk
    have hlK := envK_len val k
    rw [hlK] at HE d0
    clear hE hG
    by_cases hlt : k < 40
    · have q0 : decide ((k : Int) < 40) = true := decide_eq_true (by omega)
      have hst := Hset.out k hlt
      rw [setK val hv k hlt] at hst
      unfold EnvPost at hst
      obtain ⟨X, hX⟩ : ∃ X, UInt8.ofNat (97 + k / 10) = X := ⟨_, rfl⟩
      obtain ⟨Y, hY⟩ : ∃ Y, UInt8.ofNat (48 + k % 10) = Y := ⟨_, rfl⟩
      have hXn : X.toNat = 97 + k / 10 := by rw [← hX, UInt8.toNat_ofNat']; omega
      have hYn : Y.toNat = 48 + k % 10 := by rw [← hY, UInt8.toNat_ofNat']; omega
      have eX : (97 : Int) + (k : Int) / 10 = (X.toNat : Int) := by omega
      have eY : (48 : Int) + (k : Int) % 10 = (Y.toNat : Int) := by omega
      have bX := X.toNat_lt
      have bY := Y.toNat_lt
      have hnm : nameI k = [110, X, Y] := by unfold nameI; rw [hX, hY]
      rw [hnm] at hst
      simp only [envK_len] at hst
      have HST := hide hst
      have hkb : (0 : Int) ≤ k ∧ (k : Int) < 40 := by omega
      clear hX hY hXn hYn hnm hst hlK
      go_wp2_with (first | (refine wpList_convert (.string ⟨#[X, Y]⟩) (run_str2 _ X Y) ?_))
      refine (HST.out _ _ (Own.alloc (by have := HE.out.own; rwa [envK_len] at this) _)).mono ?_
      rintro e w4 ⟨v4, rfl, ho4, g4⟩
      obtain ⟨a4, c4, rfl, _, _⟩ := ho4.form
      have HO4 := hide ho4
      have HB4 := hide (Blk.grown (HE.out.blk.alloc (.cells #[.int .u8 X.toNat, .int .u8 Y.toNat] 5)) g4 (by simp))
      have HG4 := hide (none_trans (only_alloc HG.out (.cells #[.int .u8 X.toNat, .int .u8 Y.toNat] 5)) g4)
      have k0 := Blk.cell (Blk.grown (HE.out.blk.alloc (.cells #[.int .u8 X.toNat, .int .u8 Y.toNat] 5)) g4 (by simp)) 0
      have k1 := Blk.cell (Blk.grown (HE.out.blk.alloc (.cells #[.int .u8 X.toNat, .int .u8 Y.toNat] 5)) g4 (by simp)) 1
      have k2 := Blk.cell (Blk.grown (HE.out.blk.alloc (.cells #[.int .u8 X.toNat, .int .u8 Y.toNat] 5)) g4 (by simp)) 2
      have kz0 := Blk.frozen (Blk.grown (HE.out.blk.alloc (.cells #[.int .u8 X.toNat, .int .u8 Y.toNat] 5)) g4 (by simp)) 0
      have kz1 := Blk.frozen (Blk.grown (HE.out.blk.alloc (.cells #[.int .u8 X.toNat, .int .u8 Y.toNat] 5)) g4 (by simp)) 1
      have kz2 := Blk.frozen (Blk.grown (HE.out.blk.alloc (.cells #[.int .u8 X.toNat, .int .u8 Y.toNat] 5)) g4 (by simp)) 2
      have kl := Blk.lt (Blk.grown (HE.out.blk.alloc (.cells #[.int .u8 X.toNat, .int .u8 Y.toNat] 5)) g4 (by simp))
      clear ho4 g4 d0 d1 d2 z0 z1 z2 lb
      try unfold envV
      go_wp2_with fail
      go_roundw
      case rel =>
        refine ⟨k + 1, .slice a4 (k + 1) c4, by go_num, by omega, ?_, ?_⟩
        · have := EnvAt.put (vs := envK val (k + 1)) HB4.out (by rw [envK_len]; exact HO4.out)
          exact this.alloc _
        · exact only_alloc (gr27 HG4.out (by omega) _ _ _) _
      case measure => simp [intOf]; omega
    · obtain rfl : k = 40 := by omega
      have q0 : decide (((40 : Nat) : Int) < 40) = false := by decide
      clear hlK
      by_cases hn0 : which < 0
      · have q3 : decide (which < 0) = true := decide_eq_true hn0
        obtain ⟨n, hn⟩ : ∃ n : Nat, -(which + 1) = (n : Int) := ⟨(-(which + 1)).toNat, by omega⟩
        have e1 : -(which + 1) = (n : Int) := hn
        have hwb2 : (-9223372036854775808 : Int) ≤ which + 1 ∧ which + 1 ≤ 9223372036854775807 := by omega
        have hwb3 : (-9223372036854775808 : Int) ≤ -(which + 1) ∧ -(which + 1) ≤ 9223372036854775807 := by omega
        clear hn
        obtain ⟨kk, hkk⟩ : ∃ kk, n % 40 = kk := ⟨_, rfl⟩
        have hk40 : kk < 40 := by omega
        have e40 : (n : Int) % 40 = (kk : Int) := by omega
        have hnb : (0 : Int) ≤ (n : Int) ∧ (n : Int) ≤ 9223372036854775807 := by omega
        have hkb : (0 : Int) ≤ (kk : Int) ∧ (kk : Int) < 40 := by omega
        obtain ⟨F, G, H, pA, pB, pC, wF, pD, wG, pE, wH, pg, hH⟩ := full_plain val hv kk hk40
        obtain ⟨X, hX⟩ : ∃ X, UInt8.ofNat (97 + kk / 10) = X := ⟨_, rfl⟩
        obtain ⟨Y, hY⟩ : ∃ Y, UInt8.ofNat (48 + kk % 10) = Y := ⟨_, rfl⟩
        have hXn : X.toNat = 97 + kk / 10 := by rw [← hX, UInt8.toNat_ofNat']; omega
        have hYn : Y.toNat = 48 + kk % 10 := by rw [← hY, UInt8.toNat_ofNat']; omega
        have eX : (97 : Int) + (kk : Int) / 10 = (X.toNat : Int) := by omega
        have eY : (48 : Int) + (kk : Int) % 10 = (Y.toNat : Int) := by omega
        have bX := X.toNat_lt
        have bY := Y.toNat_lt
        have hnm : nameI kk = [110, X, Y] := by unfold nameI; rw [hX, hY]
        rw [hnm] at pC pD pg
        have hA := fun v w (ho : Own w 35 4 v (envK val 40).length (vcs (envK val 40)) 0) => set_any (envK val 40) more4 val v w (wfK val hv 40 (Nat.le_refl _)) ho (by decide) (by omega)
        have hB := fun v w (ho : Own w 35 4 v (envK val 40).length (vcs (envK val 40)) 0) => mark_any (envK val 40) more4 true false v w (wfK val hv 40 (Nat.le_refl _)) ho (by decide)
        have hC := fun v w (ho : Own w 35 4 v (envK val 40).length (vcs (envK val 40)) 0) => set_any (envK val 40) [110, X, Y] again5 v w (wfK val hv 40 (Nat.le_refl _)) ho (by show 3 ≤ _; omega) (by decide)
        have hD := fun v w (ho : Own w 35 4 v F.length (vcs F) 0) => unset_any F [110, X, Y] v w wF ho (by show 3 ≤ _; omega)
        have hE := fun v w (ho : Own w 35 4 v G.length (vcs G) 0) => set_any G more4 val v w wG ho (by decide) (by omega)
        have hGt := fun v w (ho : Own w 35 4 v H.length (vcs H) 0) => get_any H [110, X, Y] v w wH ho
        rw [pA] at hA
        rw [pB] at hB
        rw [pC] at hC
        rw [pD] at hD
        rw [pE] at hE
        rw [pg] at hGt
        unfold EnvPost sv envV at hA hB hC hD hE
        unfold sv envV at hGt
        unfold more4 at hA hB hE
        unfold again5 at hC
        simp only [envK_len] at hA hB hC
        have HA := hide hA
        have HB := hide hB
        have HC := hide hC
        have HD := hide hD
        have HEE := hide hE
        have HGT := hide hGt
        have HH := hide hH
        clear hA hB hC hD hE hGt hH pA pB pC pD pE pg wF wG wH hX hY hXn hYn hnm hkk hk40
        go_wp2_with (first | (refine wpList_convert (.string ⟨#[X, Y]⟩) (run_str2 _ X Y) ?_))
        refine (HA.out _ _ (Own.alloc (by have := HE.out.own; rwa [envK_len] at this) _)).mono ?_
        rintro e w2 ⟨v2, rfl, ho2, g2⟩
        obtain ⟨a2, c2, rfl, _, _⟩ := ho2.form
        have HE2 := hide (((HE.out.alloc (.cells #[.int .u8 X.toNat, .int .u8 Y.toNat] 5)).grown g2).alloc (.cells #[.slice a2 40 c2, .slice none 0 0, .string ⟨#[]⟩] 27))
        have HG2 := hide (only_alloc (none_trans (only_alloc HG.out (.cells #[.int .u8 X.toNat, .int .u8 Y.toNat] 5)) g2) (.cells #[.slice a2 40 c2, .slice none 0 0, .string ⟨#[]⟩] 27))
        clear ho2 g2 d0 d1 d2 z0 z1 z2 lb
        try unfold envV
        go_upto_region 17 with (fail)
        generalize w2.alloc (.cells #[.slice a2 40 c2, .slice none 0 0, .string ⟨#[]⟩] 27) = W2 at HE2 HG2 ⊢
        obtain ⟨d0, d1, d2⟩ := res27 HE2.out.blk
        have lb := Blk.lt HE2.out.blk
        go_wp2_with fail
        refine (HB.out _ _ (by have := HE2.out.own; rwa [envK_len] at this)).mono ?_
        rintro e w3 ⟨v3, rfl, ho3, g3⟩
        obtain ⟨a3, c3, rfl, _, _⟩ := ho3.form
        have HE3 := hide ((HE2.out.grown g3).alloc (.cells #[.slice a3 40 c3, .slice none 0 0, .string ⟨#[]⟩] 27))
        have HG3 := hide (only_alloc (none_trans HG2.out g3) (.cells #[.slice a3 40 c3, .slice none 0 0, .string ⟨#[]⟩] 27))
        clear ho3 g3 d0 d1 d2 lb
        try unfold envV
        go_upto_region 18 with (fail)
        generalize w3.alloc (.cells #[.slice a3 40 c3, .slice none 0 0, .string ⟨#[]⟩] 27) = W3 at HE3 HG3 ⊢
        obtain ⟨d0, d1, d2⟩ := res27 HE3.out.blk
        have lb := Blk.lt HE3.out.blk
        go_wp2_with fail
        refine (HC.out _ _ (by have := HE3.out.own; rwa [envK_len] at this)).mono ?_
        rintro e w4 ⟨v4, rfl, ho4, g4⟩
        obtain ⟨a4, c4, rfl, _, _⟩ := ho4.form
        have HF4 := hide (⟨Blk.new w4 27 _, ho4.alloc _⟩ : EnvAt (w4.alloc (.cells #[.slice a4 F.length c4, .slice none 0 0, .string ⟨#[]⟩] 27)) w4.heap.size (.slice a4 F.length c4) F)
        have HG4 := hide (only_alloc (none_trans HG3.out g4) (.cells #[.slice a4 F.length c4, .slice none 0 0, .string ⟨#[]⟩] 27))
        clear ho4 g4 d0 d1 d2 lb
        try unfold envV
        go_wp2_with fail
        refine (HD.out _ _ HF4.out.own).mono ?_
        rintro e w5 ⟨v5, rfl, ho5, g5⟩
        obtain ⟨a5, c5, rfl, _, _⟩ := ho5.form
        have HF5 := hide (⟨Blk.new w5 27 _, ho5.alloc _⟩ : EnvAt (w5.alloc (.cells #[.slice a5 G.length c5, .slice none 0 0, .string ⟨#[]⟩] 27)) w5.heap.size (.slice a5 G.length c5) G)
        have HG5 := hide (only_alloc (none_trans HG4.out g5) (.cells #[.slice a5 G.length c5, .slice none 0 0, .string ⟨#[]⟩] 27))
        clear ho5 g5
        try unfold envV
        go_wp2_with fail
        refine (HEE.out _ _ HF5.out.own).mono ?_
        rintro e w6 ⟨v6, rfl, ho6, g6⟩
        obtain ⟨a6, c6, rfl, _, _⟩ := ho6.form
        have HF6 := hide (⟨Blk.new w6 27 _, ho6.alloc _⟩ : EnvAt (w6.alloc (.cells #[.slice a6 H.length c6, .slice none 0 0, .string ⟨#[]⟩] 27)) w6.heap.size (.slice a6 H.length c6) H)
        have HG6 := hide (only_alloc (none_trans HG5.out g6) (.cells #[.slice a6 H.length c6, .slice none 0 0, .string ⟨#[]⟩] 27))
        clear ho6 g6
        try unfold envV
        go_wp2_with fail
        refine (HGT.out _ _ HF6.out.own).mono ?_
        rintro e w7 ⟨rfl, g7⟩
        have HF7 := hide (HF6.out.grown g7)
        have HG7 := hide (none_trans HG6.out g7)
        obtain ⟨d0, d1, d2⟩ := res27 HF7.out.blk
        have lb := Blk.lt HF7.out.blk
        rw [HH.out] at d0
        clear g7
        go_wp2_with fail
        go_ret
        exact ⟨rfl, HG7.out⟩
      · have q3 : decide (which < 0) = false := decide_eq_false hn0
        obtain ⟨n, rfl⟩ : ∃ n : Nat, which = (n : Int) := ⟨which.toNat, by omega⟩
        obtain ⟨kk, hkk⟩ : ∃ kk, n % 40 = kk := ⟨_, rfl⟩
        have hk40 : kk < 40 := by omega
        have e40 : (n : Int) % 40 = (kk : Int) := by omega
        have hnb : (0 : Int) ≤ (n : Int) ∧ (n : Int) ≤ 9223372036854775807 := by omega
        have hkb : (0 : Int) ≤ (kk : Int) ∧ (kk : Int) < 40 := by omega
        obtain ⟨F, G, H, pA, pB, pC, wF, pD, wG, pE, wH, pg, hH⟩ := full_plain val hv kk hk40
        obtain ⟨X, hX⟩ : ∃ X, UInt8.ofNat (97 + kk / 10) = X := ⟨_, rfl⟩
        obtain ⟨Y, hY⟩ : ∃ Y, UInt8.ofNat (48 + kk % 10) = Y := ⟨_, rfl⟩
        have hXn : X.toNat = 97 + kk / 10 := by rw [← hX, UInt8.toNat_ofNat']; omega
        have hYn : Y.toNat = 48 + kk % 10 := by rw [← hY, UInt8.toNat_ofNat']; omega
        have eX : (97 : Int) + (kk : Int) / 10 = (X.toNat : Int) := by omega
        have eY : (48 : Int) + (kk : Int) % 10 = (Y.toNat : Int) := by omega
        have bX := X.toNat_lt
        have bY := Y.toNat_lt
        have hnm : nameI kk = [110, X, Y] := by unfold nameI; rw [hX, hY]
        rw [hnm] at pC pD pg
        have hA := fun v w (ho : Own w 35 4 v (envK val 40).length (vcs (envK val 40)) 0) => set_any (envK val 40) more4 val v w (wfK val hv 40 (Nat.le_refl _)) ho (by decide) (by omega)
        have hB := fun v w (ho : Own w 35 4 v (envK val 40).length (vcs (envK val 40)) 0) => mark_any (envK val 40) more4 true false v w (wfK val hv 40 (Nat.le_refl _)) ho (by decide)
        have hC := fun v w (ho : Own w 35 4 v (envK val 40).length (vcs (envK val 40)) 0) => set_any (envK val 40) [110, X, Y] again5 v w (wfK val hv 40 (Nat.le_refl _)) ho (by show 3 ≤ _; omega) (by decide)
        have hD := fun v w (ho : Own w 35 4 v F.length (vcs F) 0) => unset_any F [110, X, Y] v w wF ho (by show 3 ≤ _; omega)
        have hE := fun v w (ho : Own w 35 4 v G.length (vcs G) 0) => set_any G more4 val v w wG ho (by decide) (by omega)
        have hGt := fun v w (ho : Own w 35 4 v H.length (vcs H) 0) => get_any H [110, X, Y] v w wH ho
        rw [pA] at hA
        rw [pB] at hB
        rw [pC] at hC
        rw [pD] at hD
        rw [pE] at hE
        rw [pg] at hGt
        unfold EnvPost sv envV at hA hB hC hD hE
        unfold sv envV at hGt
        unfold more4 at hA hB hE
        unfold again5 at hC
        simp only [envK_len] at hA hB hC
        have HA := hide hA
        have HB := hide hB
        have HC := hide hC
        have HD := hide hD
        have HEE := hide hE
        have HGT := hide hGt
        have HH := hide hH
        clear hA hB hC hD hE hGt hH pA pB pC pD pE pg wF wG wH hX hY hXn hYn hnm hkk hk40
        go_wp2_with (first | (refine wpList_convert (.string ⟨#[X, Y]⟩) (run_str2 _ X Y) ?_))
        refine (HA.out _ _ (Own.alloc (by have := HE.out.own; rwa [envK_len] at this) _)).mono ?_
        rintro e w2 ⟨v2, rfl, ho2, g2⟩
        obtain ⟨a2, c2, rfl, _, _⟩ := ho2.form
        have HE2 := hide (((HE.out.alloc (.cells #[.int .u8 X.toNat, .int .u8 Y.toNat] 5)).grown g2).alloc (.cells #[.slice a2 40 c2, .slice none 0 0, .string ⟨#[]⟩] 27))
        have HG2 := hide (only_alloc (none_trans (only_alloc HG.out (.cells #[.int .u8 X.toNat, .int .u8 Y.toNat] 5)) g2) (.cells #[.slice a2 40 c2, .slice none 0 0, .string ⟨#[]⟩] 27))
        clear ho2 g2 d0 d1 d2 z0 z1 z2 lb
        try unfold envV
        go_upto_region 17 with (fail)
        generalize w2.alloc (.cells #[.slice a2 40 c2, .slice none 0 0, .string ⟨#[]⟩] 27) = W2 at HE2 HG2 ⊢
        obtain ⟨d0, d1, d2⟩ := res27 HE2.out.blk
        have lb := Blk.lt HE2.out.blk
        go_wp2_with fail
        refine (HB.out _ _ (by have := HE2.out.own; rwa [envK_len] at this)).mono ?_
        rintro e w3 ⟨v3, rfl, ho3, g3⟩
        obtain ⟨a3, c3, rfl, _, _⟩ := ho3.form
        have HE3 := hide ((HE2.out.grown g3).alloc (.cells #[.slice a3 40 c3, .slice none 0 0, .string ⟨#[]⟩] 27))
        have HG3 := hide (only_alloc (none_trans HG2.out g3) (.cells #[.slice a3 40 c3, .slice none 0 0, .string ⟨#[]⟩] 27))
        clear ho3 g3 d0 d1 d2 lb
        try unfold envV
        go_upto_region 18 with (fail)
        generalize w3.alloc (.cells #[.slice a3 40 c3, .slice none 0 0, .string ⟨#[]⟩] 27) = W3 at HE3 HG3 ⊢
        obtain ⟨d0, d1, d2⟩ := res27 HE3.out.blk
        have lb := Blk.lt HE3.out.blk
        go_wp2_with fail
        refine (HC.out _ _ (by have := HE3.out.own; rwa [envK_len] at this)).mono ?_
        rintro e w4 ⟨v4, rfl, ho4, g4⟩
        obtain ⟨a4, c4, rfl, _, _⟩ := ho4.form
        have HF4 := hide (⟨Blk.new w4 27 _, ho4.alloc _⟩ : EnvAt (w4.alloc (.cells #[.slice a4 F.length c4, .slice none 0 0, .string ⟨#[]⟩] 27)) w4.heap.size (.slice a4 F.length c4) F)
        have HG4 := hide (only_alloc (none_trans HG3.out g4) (.cells #[.slice a4 F.length c4, .slice none 0 0, .string ⟨#[]⟩] 27))
        clear ho4 g4 d0 d1 d2 lb
        try unfold envV
        go_wp2_with fail
        refine (HD.out _ _ HF4.out.own).mono ?_
        rintro e w5 ⟨v5, rfl, ho5, g5⟩
        obtain ⟨a5, c5, rfl, _, _⟩ := ho5.form
        have HF5 := hide (⟨Blk.new w5 27 _, ho5.alloc _⟩ : EnvAt (w5.alloc (.cells #[.slice a5 G.length c5, .slice none 0 0, .string ⟨#[]⟩] 27)) w5.heap.size (.slice a5 G.length c5) G)
        have HG5 := hide (only_alloc (none_trans HG4.out g5) (.cells #[.slice a5 G.length c5, .slice none 0 0, .string ⟨#[]⟩] 27))
        clear ho5 g5
        try unfold envV
        go_wp2_with fail
        refine (HEE.out _ _ HF5.out.own).mono ?_
        rintro e w6 ⟨v6, rfl, ho6, g6⟩
        obtain ⟨a6, c6, rfl, _, _⟩ := ho6.form
        have HF6 := hide (⟨Blk.new w6 27 _, ho6.alloc _⟩ : EnvAt (w6.alloc (.cells #[.slice a6 H.length c6, .slice none 0 0, .string ⟨#[]⟩] 27)) w6.heap.size (.slice a6 H.length c6) H)
        have HG6 := hide (only_alloc (none_trans HG5.out g6) (.cells #[.slice a6 H.length c6, .slice none 0 0, .string ⟨#[]⟩] 27))
        clear ho6 g6
        try unfold envV
        go_wp2_with fail
        refine (HGT.out _ _ HF6.out.own).mono ?_
        rintro e w7 ⟨rfl, g7⟩
        have HF7 := hide (HF6.out.grown g7)
        have HG7 := hide (none_trans HG6.out g7)
        obtain ⟨d0, d1, d2⟩ := res27 HF7.out.blk
        have lb := Blk.lt HF7.out.blk
        rw [HH.out] at d0
        clear g7
        go_wp2_with fail
        go_ret
        exact ⟨rfl, HG7.out⟩

end Go.Proofs.YtdcfpklohleoiaaDoor
