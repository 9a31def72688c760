/- The walk of ParsePipes. -/
import Derived.Test.YtgpfjcogaheopaaRC
import Derived.Test.YtgpfjcogaheopaaPX
import Derived.Test.YtgpfjcogaheopaaPerm
import Derived.BigQuiet
import Derived.Deep.CutBlock
import Derived.Deep.DeepCutAuto
import Derived.Deep.LoopGhost
namespace Go.Proofs.Ytgpfjcogaheopaa
open Go.RowKit Lx
set_option maxRecDepth 100000

theorem and_bnd (x : Int) (m : Nat) (hm : m < 9223372036854775808) : ∃ a : Nat, a ≤ m ∧ bits .and .i64 x (m : Int) = (a : Int) := by
  refine ⟨(BitVec.ofInt 64 x &&& BitVec.ofInt 64 (m : Int)).toNat, ?_, ?_⟩
  · rw [BitVec.toNat_and]
    refine Nat.le_trans Nat.and_le_right ?_
    rw [BitVec.ofInt_natCast, BitVec.toNat_ofNat]
    exact Nat.mod_le _ _
  · show IntKind.i64.wrap ((BitVec.ofInt 64 x &&& BitVec.ofInt 64 (m : Int)).toNat : Int) = _
    have h : (BitVec.ofInt 64 x &&& BitVec.ofInt 64 (m : Int)).toNat ≤ m := by
      rw [BitVec.toNat_and]
      refine Nat.le_trans Nat.and_le_right ?_
      rw [BitVec.ofInt_natCast, BitVec.toNat_ofNat]
      exact Nat.mod_le _ _
    rw [IntKind.wrap_i64]
    omega
theorem tmod10 (i : Nat) : (i : Int).tmod 10 = ((i % 10 : Nat) : Int) := by
  rw [Int.tmod_eq_emod_of_nonneg (by omega)]
  omega
theorem pipeG_len (s : List UInt8) : ∀ n, (pipeG s n).length ≤ s.length + 7 * n
  | 0 => by simp [pipeG]
  | n + 1 => by
    have := pipeG_len s n
    unfold pipeG pipeT
    split <;> simp <;> omega
theorem run_str1 (w : World) (c : UInt8) : (convert 46 9 (.slice (some ⟨w.heap.size, 0, none⟩) 1 1)).run Try.prog (w.alloc (.cells #[.int .u8 c.toNat] 5)) = .ok (.string ⟨#[c]⟩) (w.alloc (.cells #[.int .u8 c.toNat] 5)) :=
  run_string_of_bytes (w.alloc (.cells #[.int .u8 c.toNat] 5)) (e := 5) (by kernel_rfl) (by kernel_rfl) (by kernel_rfl) ⟨w.heap.size, 0, none⟩ [c] 1 (fun i hi => by
    have hi0 : i = 0 := by simpa using hi
    subst hi0
    exact (Blk.new w 5 #[.int .u8 c.toNat]).cell 0)
theorem wrapc (i : Nat) (c : UInt8) (h : c.toNat = 48 + i % 10) : IntKind.u8.wrap (IntKind.i64.wrap (48 + (i : Int).tmod 10)) = (c.toNat : Int) := by
  rw [tmod10]
  have h1 : (48 : Int) + ((i % 10 : Nat) : Int) = (c.toNat : Int) := by omega
  have h2 := c.toNat_lt
  rw [h1, IntKind.wrap_i64, IntKind.wrap_u8]
  omega
theorem cmds_at : ∀ (ns : List Nd) (m j : Nat), cmdsB ns m j = true → ∀ i, i < m → ∃ h : i < ns.length, cmdB ns[i] (j + i) = true
  | _, 0, _, _, i, hi => by omega
  | [], _ + 1, _, h, i, hi => by cases h
  | n :: r, m + 1, j, h, i, hi => by
    rw [cmdsB, Bool.and_eq_true] at h
    cases i with
    | zero => exact ⟨by simp, h.1⟩
    | succ i =>
      obtain ⟨h1, h2⟩ := cmds_at r m (j + 1) h.2 i (by omega)
      refine ⟨by simp; omega, ?_⟩
      rw [show j + (i + 1) = j + 1 + i by omega]
      exact h2
theorem step_valg {ops : Array Oper} {Q : Exit → Act → World → Prop} {o : Oper} {a : Act} {w : World} {K : Act → World → Prop} {E : Prop} (v : Value) (w' : World) (hgd : Region.wanted o (yielded ops a.tmps) = true) (hr : (execOp a.eval o).run Try.prog w = .ok (.value v) w') (h : K (a.put o.dst v) w') :
    if Region.wanted o (yielded ops a.tmps) = true then Oper.wp Try.prog o a w K Q else E := by
  rw [if_pos hgd]
  unfold Oper.wp
  rw [hr]
  exact h
theorem step_convertg {ops : Array Oper} {Q : Exit → Act → World → Prop} {a : Act} {w : World} {K : Act → World → Prop} {E : Prop} {d : Option Tmp} {t src dst : TypeId} {pos : String} {af : Array Edge} {gd : Option (Nat × Bool)} {x : Operand} (v : Value)
    (hgd : Region.wanted ⟨d, .convert src dst x, t, pos, af, gd⟩ (yielded ops a.tmps) = true)
    (hr : (convert src dst (a.eval x)).run Try.prog w = .ok v w) (h : K (a.put d v) w) :
    if Region.wanted (⟨d, .convert src dst x, t, pos, af, gd⟩ : Oper) (yielded ops a.tmps) = true then Oper.wp Try.prog ⟨d, .convert src dst x, t, pos, af, gd⟩ a w K Q else E :=
  step_valg v w hgd (by simp [execOp, hr]) h
theorem step_concatg {ops : Array Oper} {Q : Exit → Act → World → Prop} {a : Act} {w : World} {K : Act → World → Prop} {E : Prop} {d : Option Tmp} {t T U : TypeId} {pos : String} {af : Array Edge} {gd : Option (Nat × Bool)} {x y : Operand} (s1 s2 : ByteArray)
    (hgd : Region.wanted ⟨d, .binOp .add T x y U, t, pos, af, gd⟩ (yielded ops a.tmps) = true)
    (hx : a.eval x = .string s1) (hy : a.eval y = .string s2) (hs : s1.size + s2.size ≤ 9223372036854775807) (h : K (a.put d (.string (s1 ++ s2))) w) :
    if Region.wanted (⟨d, .binOp .add T x y U, t, pos, af, gd⟩ : Oper) (yielded ops a.tmps) = true then Oper.wp Try.prog ⟨d, .binOp .add T x y U, t, pos, af, gd⟩ a w K Q else E :=
  step_valg (.string (s1 ++ s2)) w hgd (by simp [execOp, hx, hy, eqGuard, binOp_string_add, run_string_add_sum (P := Try.prog) (w := w) s1 s2 hs]) h
theorem pipeG_succ (s : List UInt8) (n : Nat) : pipeG s (n + 1) = (if 0 < n then pipeG s n ++ [32, 124, 10] else pipeG s n) ++ [99] ++ [UInt8.ofNat (48 + n % 10)] ++ [32, 120] := by
  rw [pipeG, pipeT]
  simp
set_option maxHeartbeats 8000000 in
theorem pipes_any (n0 : Int) (b : Bool) (w : World) : Calls Try.prog 7 #[.int .i64 n0, .bool b] w fun e w' => e = .returned (.bool true) ∧ w.grownBy w' none := by
  obtain ⟨m, hm, hb⟩ := and_bnd n0 31 (by omega)
  have Hs := hide (fun W => shown_any W)
  have HK := hide (pipe_all (m + 1) (by omega) (by omega) b)
  have hlen : (pipeS b (m + 1)).length ≤ 4096 := by
    have := pipeG_len (if b = true then [33, 32] else []) (m + 1)
    unfold pipeS
    have h2 : (if b = true then ([33, 32] : List UInt8) else []).length ≤ 2 := by split <;> simp
    omega
  have HP := hide (fun W => parse_any (pipeS b (m + 1)) W (by omega))
  unfold ParsePost sv at HP
  have hq := hide (by have := parseN_eq (pipeS b (m + 1)) (by omega); exact this)
  rw [hq.out] at HP
  have hb2 : bits .and .i64 n0 31 = (m : Int) := hb
  clear hb hlen
  obtain ⟨M, hM⟩ : ∃ M, m + 1 = M := ⟨_, rfl⟩
  have HM := hide (show 1 ≤ M ∧ M ≤ 32 by omega)
  rw [hM] at HK HP hq
  have HM1 := hide (show (1 : Int) + (m : Int) = (M : Int) by omega)
  have hm1 : (m : Int) ≤ 31 := by omega
  go_enter Try.func7, Try.ntmps7
  go_wp2_with fail
  refine (Hs.out _).mono ?_
  rintro e w1 ⟨rfl, g1⟩
  have G1 := hide g1
  clear g1 hM hm
  go_upto_region 3 with (fail)
  simp only [HM1.out]
  clear hm1
  obtain ⟨s0, hs0⟩ : ∃ s0, (if b = true then ([33, 32] : List UInt8) else []) = s0 := ⟨_, rfl⟩
  have HS0 := hide (show pipeS b M = pipeG s0 M by unfold pipeS; rw [hs0])
  have hl0 : s0.length ≤ 2 := by rw [← hs0]; split <;> simp
  go_upto_if 17 with (fail)
  go_cut [6] (fun v6 wx => v6 = sv s0 ∧ wx = w1)
  case first =>
    cases b with
    | true =>
      go_wp2_with fail
      go_meet
      exact ⟨by rw [← hs0]; rfl, rfl⟩
    | false =>
      go_wp2_with fail
      go_meet
      exact ⟨by rw [← hs0]; rfl, rfl⟩
  case rest =>
    obtain ⟨rfl, hwc⟩ := hcut
    subst hwc
    clear hs0
    go_wp2_with fail
    go_loopg [6, 7] M (fun g v6 v7 wr => ∃ k : Nat, v7 = .int .i64 k ∧ v6 = sv (pipeG s0 k) ∧ k ≤ M ∧ M - k ≤ g ∧ wc.grownBy wr none)
    case atStart => exact ⟨0, rfl, rfl, Nat.zero_le _, Nat.le_refl _, only_refl _ _⟩
    case round =>
      obtain ⟨k, rfl, rfl, hk, hgk, hgr⟩ := hrel
      have HGK := hide hgk
      clear hgk
      have HGR := hide hgr
      have hM32 := HM.out.2
      have hM1 := HM.out.1
      have hsl := pipeG_len s0 k
      by_cases hlt : k < M
      · have q0 : decide ((k : Int) < (M : Int)) = true := decide_eq_true (by omega)
        have hsc := pipeG_succ s0 k
        obtain ⟨S, hS⟩ : ∃ S, pipeG s0 k = S := ⟨_, rfl⟩
        rw [hS] at hsl hsc ⊢
        obtain ⟨c, hc⟩ : ∃ c, UInt8.ofNat (48 + k % 10) = c := ⟨_, rfl⟩
        have hcn : c.toNat = 48 + k % 10 := by rw [← hc, UInt8.toNat_ofNat']; omega
        rw [hc] at hsc
        obtain ⟨S1, hS1⟩ : ∃ S1, (if 0 < k then S ++ [32, 124, 10] else S) = S1 := ⟨_, rfl⟩
        rw [hS1] at hsc
        have HS1 := hide hS1
        have hl1 : S1.length ≤ S.length + 3 := by rw [← hS1]; split <;> simp
        have ht : (k : Int).tmod 10 = ((k % 10 : Nat) : Int) := tmod10 k
        clear hS hc hS1 hgr
        unfold sv
        go_upto_if 24 with (fail)
        go_cut [6] (fun v6 wx => v6 = sv S1 ∧ wx = wr)
        case first =>
          by_cases h0 : 0 < k
          · have q1 : decide ((0 : Int) < (k : Int)) = true := decide_eq_true (by omega)
            have q2 : decide (0 < k) = true := decide_eq_true h0
            have e1 : ByteArray.mk S.toArray ++ ByteArray.mk #[32, 124, 10] = ⟨(S ++ [32, 124, 10]).toArray⟩ := cat_ba S [32, 124, 10]
            have E1 := hide e1
            have hsz := hide (sz S)
            have HS2 := hide (show S ++ [32, 124, 10] = S1 by rw [← HS1.out, if_pos h0])
            clear e1
            go_wp2_with (refine wpList_concat ⟨S.toArray⟩ ⟨#[32, 124, 10]⟩ rfl rfl (by rw [hsz.out]; show _ + 3 ≤ _; omega) ?_; rw [E1.out])
            go_meet
            exact ⟨by rw [HS2.out]; rfl, rfl⟩
          · have q1 : decide ((0 : Int) < (k : Int)) = false := decide_eq_false (by omega)
            have q2 : decide (0 < k) = false := decide_eq_false h0
            have HS2 := hide (show S = S1 by rw [← HS1.out, if_neg h0])
            go_wp2_with fail
            go_meet
            exact ⟨by rw [← HS2.out]; rfl, rfl⟩
        case rest =>
          obtain ⟨rfl, rfl⟩ := hcut
          unfold sv
          have e1 : ByteArray.mk S1.toArray ++ ByteArray.mk #[99] = ⟨(S1 ++ [99]).toArray⟩ := cat_ba S1 [99]
          obtain ⟨S2, hS2⟩ : ∃ S2, S1 ++ [99] = S2 := ⟨_, rfl⟩
          rw [hS2] at e1 hsc
          have e2 : ByteArray.mk S2.toArray ++ ByteArray.mk #[c] = ⟨(S2 ++ [c]).toArray⟩ := cat_ba S2 [c]
          obtain ⟨S3, hS3⟩ : ∃ S3, S2 ++ [c] = S3 := ⟨_, rfl⟩
          rw [hS3] at e2 hsc
          have e3 : ByteArray.mk S3.toArray ++ ByteArray.mk #[32, 120] = ⟨(S3 ++ [32, 120]).toArray⟩ := cat_ba S3 [32, 120]
          have l2 : S2.length = S1.length + 1 := by rw [← hS2]; simp
          have l3 : S3.length = S2.length + 1 := by rw [← hS3]; simp
          obtain ⟨S4, hS4⟩ : ∃ S4, S3 ++ [32, 120] = S4 := ⟨_, rfl⟩
          rw [hS4] at e3 hsc
          have E1 := hide e1
          have E2 := hide e2
          have E3 := hide e3
          have HSC := hide hsc
          have HZ := hide (And.intro (sz S1) (And.intro (sz S2) (sz S3)))
          have HLL := hide (And.intro l2 l3)
          have hcn2 : (48 : Int) + (k : Int) % 10 = (c.toNat : Int) := by omega
          have hk10 : (k : Int) % 10 ≤ 9 := by omega
          clear e1 e2 e3 hsc hS2 hS3 hS4 l2 l3 hcn
          go_wp2_with (first | (refine wpList_convert (.string ⟨#[c]⟩) (run_str1 _ c) ?_) | (refine wpList_concat ⟨S1.toArray⟩ ⟨#[99]⟩ rfl rfl (by rw [HZ.out.1]; show _ + 1 ≤ _; omega) ?_; rw [E1.out]) | (refine wpList_concat ⟨S2.toArray⟩ ⟨#[c]⟩ rfl rfl (by rw [HZ.out.2.1, HLL.out.1]; show _ + 1 ≤ _; omega) ?_; rw [E2.out]) | (refine wpList_concat ⟨S3.toArray⟩ ⟨#[32, 120]⟩ rfl rfl (by rw [HZ.out.2.2, HLL.out.2, HLL.out.1]; show _ + 2 ≤ _; omega) ?_; rw [E3.out]))
          go_roundg (gk - 1)
          case rel => exact ⟨k + 1, by go_num, by rw [HSC.out]; rfl, by omega, by have := HGK.out; omega, only_alloc HGR.out _⟩
          case measure => have := HGK.out; omega
      · obtain rfl : k = M := by omega
        have q0 : decide ((k : Int) < (k : Int)) = false := decide_eq_false (by omega)
        obtain ⟨P, hP⟩ : ∃ P, parseN (pipeS b k) = P := ⟨_, rfl⟩
        have HP1 := hide (by have := HP.out wr; rw [hP, HS0.out] at this; exact this)
        obtain ⟨SS, hSS⟩ : ∃ SS, pipeG s0 k = SS := ⟨_, rfl⟩
        rw [hSS] at HP1 ⊢
        have hk2 := HK.out
        unfold okP at hk2
        simp only [] at hk2
        rw [hP] at hk2
        rw [Bool.and_eq_true, Bool.and_eq_true, Bool.and_eq_true, Bool.and_eq_true] at hk2
        have HF := hide (show P.e = 0 ∧ P.ns.length = lenP k b ∧ cmdsB P.ns k 0 = true ∧ (decide (k = 1) || pipeB k (P.ns.drop k)) = true ∧ notB b P.ns.getLast? = true from ⟨eq_of_beq hk2.1.1.1.1, eq_of_beq hk2.1.1.1.2, hk2.1.1.2, hk2.1.2, hk2.2⟩)
        have f1 := HF.out.1
        clear hP hk2 hSS hsl hgr
        unfold sv
        go_wp2_with fail
        refine HP1.out.mono ?_
        rintro e w2 ⟨v, rfl, hnd, hnw, g2⟩
        have G2 := hide (none_trans (none_trans G1.out HGR.out) g2)
        have HND := hide hnd
        obtain ⟨L, hL⟩ : ∃ L, P.ns.length = L := ⟨_, rfl⟩
        have HL := hide hL
        have hlp : L = lenP k b := by rw [← hL]; exact HF.out.2.1
        have hL1 : k ≤ L := by rw [hlp]; unfold lenP; omega
        obtain ⟨g, off, cap, rfl, hcp, hg, hcs⟩ := hnd.cells (by omega)
        have HCS := hide hcs
        simp only [f1, hL]
        rw [hL] at hcp
        have HLP := hide hlp
        clear hnd hnw g2 hcs hL f1 hlp
        have HLK := hide (show 1 ≤ k ∧ k ≤ 32 from HM.out)
        clear q0 hlt hk
        have hLL := HLP.out
        unfold lenP at hLL
        obtain ⟨L1, hL1'⟩ : ∃ L1, k + (if 1 < k then 1 else 0) = L1 := ⟨_, rfl⟩
        rw [hL1'] at hLL
        have HL1 := hide hL1'
        have HL2 := hide hLL
        clear hLL hL1'
        go_upto_if 45 with (fail)
        go_cut [11] (fun v11 wx => v11 = .int .i64 L1 ∧ wx = w2)
        case first =>
          by_cases h1 : 1 < k
          · have q1 : decide ((1 : Int) < (k : Int)) = true := decide_eq_true (by omega)
            have HX := hide (show (k : Int) + 1 = (L1 : Int) by rw [← HL1.out, if_pos h1]; omega)
            go_wp2_with fail
            go_meet
            exact ⟨by rw [← HX.out], rfl⟩
          · have q1 : decide ((1 : Int) < (k : Int)) = false := decide_eq_false (by omega)
            have HX := hide (show (k : Int) = (L1 : Int) by rw [← HL1.out, if_neg h1]; omega)
            go_wp2_with fail
            go_meet
            exact ⟨by rw [← HX.out], rfl⟩
        case rest =>
          obtain ⟨rfl, hwc⟩ := hcut
          subst hwc
          have hL1b : L1 ≤ 33 := by rw [← HL1.out]; split <;> omega
          go_upto_if 48 with (fail)
          go_cut [11] (fun v11 wx => v11 = .int .i64 L ∧ wx = wc)
          case first =>
            cases b with
            | true =>
              have HX := hide (show (L1 : Int) + 1 = (L : Int) by rw [HL2.out, if_pos rfl]; omega)
              go_wp2_with fail
              go_meet
              exact ⟨by rw [← HX.out], rfl⟩
            | false =>
              have HX := hide (show (L1 : Int) = (L : Int) by rw [HL2.out, if_neg (by decide)]; omega)
              go_wp2_with fail
              go_meet
              exact ⟨by rw [← HX.out], rfl⟩
          case rest =>
            obtain ⟨rfl, hwc⟩ := hcut
            subst hwc
            go_wp2_with fail
            have HKB := hide (show ∀ (h : k < P.ns.length), 1 < k → P.ns[k].kind = 3 ∧ P.ns[k].kids = (List.range k).map Int.ofNat from fun h h1 => by
              have hp := HF.out.2.2.2.1
              rw [show decide (k = 1) = false from decide_eq_false (by omega), Bool.false_or, List.drop_eq_getElem_cons h] at hp
              unfold pipeB at hp
              simp only [Bool.and_eq_true] at hp
              exact ⟨eq_of_beq hp.1, eq_of_beq hp.2⟩)
            go_loopg [12] k (fun g v12 wr => ∃ i : Nat, v12 = .int .i64 i ∧ i ≤ k ∧ k - i ≤ g ∧ wc.grownBy wr none)
            case atStart => exact ⟨0, rfl, Nat.zero_le _, Nat.le_refl _, only_refl _ _⟩
            case round =>
              obtain ⟨i, rfl, hik, hgi, hgr2⟩ := hrel
              have HGI := hide hgi
              have HGR2 := hide hgr2
              clear hgi
              by_cases hlt : i < k
              · have q0 : decide ((i : Int) < (k : Int)) = true := decide_eq_true (by omega)
                obtain ⟨hi, hcb⟩ := cmds_at _ _ _ HF.out.2.2.1 i hlt
                rw [Nat.zero_add] at hcb
                unfold cmdB at hcb
                rw [Bool.and_eq_true, Bool.and_eq_true] at hcb
                have hkd : P.ns[i].kind = 1 := eq_of_beq hcb.1.1
                have hwl : P.ns[i].words.length = 2 := eq_of_beq hcb.1.2
                obtain ⟨c, hc⟩ : ∃ c, UInt8.ofNat (48 + i % 10) = c := ⟨_, rfl⟩
                have hcn : c.toNat = 48 + i % 10 := by rw [← hc, UInt8.toNat_ofNat']; omega
                have hw0 : P.ns[i].words.getD 0 [] = [99, c] := by rw [← hc]; exact eq_of_beq hcb.2
                obtain ⟨ca, cb, cr, cp, ck, hna, hce⟩ := HCS.out i hi
                have x0 : wr.cell? ⟨g, off + i * 8, none⟩ = some (.int .i64 1) := old_cell hgr2 hg (by have := hce 0 (by omega); rw [Nat.add_zero] at this; rw [this]; show some (Value.int .i64 P.ns[i].kind) = _; rw [hkd])
                have hws := hna.words
                unfold StrS at hws
                obtain ⟨gw, ow, cw, rfl, hcw, _, hgw, hww⟩ := hws.some_ (by omega)
                rw [hwl] at hcw
                have x4 : wr.cell? ⟨g, off + i * 8 + 4, none⟩ = some (.slice (some ⟨gw, ow, none⟩) 2 cw) := old_cell hgr2 hg (by have := hce 4 (by omega); rw [← Nat.add_assoc] at this; rw [this, hwl]; rfl)
                have xw : wr.cell? ⟨gw, ow, none⟩ = some (.string ⟨#[99, c]⟩) := old_cell hgr2 hgw (by
                  have h0 := hww 0 (by omega)
                  rw [Nat.add_zero] at h0
                  rw [h0, List.getElem?_map, List.getElem?_eq_getElem (by omega)]
                  have h9 : P.ns[i].words[0] = [99, c] := by rw [← hw0, List.getD_eq_getElem?_getD, List.getElem?_eq_getElem (by omega)]; rfl
                  rw [h9]
                  rfl)
                have hg2 := Nat.lt_of_lt_of_le hg hgr2.size
                have hgw2 := Nat.lt_of_lt_of_le hgw hgr2.size
                have hib : (0 : Int) ≤ (i : Int) ∧ (i : Int) < (L : Int) := by omega
                have hcn2 : (48 : Int) + (i : Int) % 10 = (c.toNat : Int) := by omega
                have hk10 : (i : Int) % 10 ≤ 9 := by omega
                have e1 : ByteArray.mk #[99] ++ ByteArray.mk #[c] = ⟨#[99, c]⟩ := cat_ba [99] [c]
                have E1 := hide e1
                have HLTI := hide hlt
                have HKX := hide (show 1 < k → ∃ gk ok ck2, wr.cell? ⟨g, off + k * 8 + 7, none⟩ = some (.slice (some ⟨gk, ok, none⟩) k ck2) ∧ k ≤ ck2 ∧ gk < wr.heap.size ∧ wr.cell? ⟨gk, ok + i, none⟩ = some (.int .i64 i) ∧ (k : Int) < (L : Int) from fun h1 => by
                  have hkL : k < P.ns.length := by
                    rw [HL.out, HLP.out]; unfold lenP; rw [if_pos h1]; omega
                  obtain ⟨_, hkk⟩ := HKB.out hkL h1
                  obtain ⟨_, _, _, _, ckk, hnk, hck⟩ := HCS.out k hkL
                  have hks := hnk.kids
                  unfold IntS at hks
                  have hkl : P.ns[k].kids.length = k := by rw [hkk]; simp
                  obtain ⟨gk, ok, ck2, rfl, hc2, _, hgk, hkc⟩ := hks.some_ (by omega)
                  refine ⟨gk, ok, ck2, old_cell hgr2 hg (by have := hck 7 (by omega); rw [← Nat.add_assoc] at this; rw [this, hkl]; rfl), by omega, Nat.lt_of_lt_of_le hgk hgr2.size, old_cell hgr2 hgk ?_, by have := HL.out; omega⟩
                  rw [hkc i (by omega), hkk, List.getElem?_map, List.getElem?_map, List.getElem?_range (by omega)]
                  rfl)
                have HTM := hide (wrapc i c hcn)
                clear hcb hkd hwl hc hcn hw0 hna hce hws hww e1
                go_upto_region 23 with (fail)
                go_cut [95] (fun v95 wx => v95 = .bool false ∧ wr.grownBy wx none)
                case first =>
                  rename_i J0 K0 hJ0 hK0
                  refine wp_region_perm [0, 1, 2, 3, 4, 5, 6, 7, 8, 9, 10, 11, 12, 13, 14, 15, 16, 17, 18, 19, 20, 21, 22, 23, 24, 25, 26] [27, 28, 29, 30, 31] (by kernel_rfl) (by kernel_rfl) (fun W' => W'.cell? ⟨g, off + i * 8, none⟩ = some (.int .i64 1) ∧ W'.cell? ⟨g, off + i * 8 + 4, none⟩ = some (.slice (some ⟨gw, ow, none⟩) 2 cw) ∧ W'.cell? ⟨gw, ow, none⟩ = some (.string ⟨#[99, c]⟩)) ⟨x0, x4, xw⟩ ?_
                  simp only [pick, List.getElem?_cons_zero, List.getElem?_cons_succ]
                  refine wpTake_cons ?_ (by rfl) ?_ ?_
                  rotate_left
                  · (intro W9 hSW; obtain ⟨hs0, hs4, hsw⟩ := hSW; go_simp; try with_reducible rfl)
                  simp only [Act.put, List.setIfInBounds_toArray, List.set_cons_zero, List.set_cons_succ]
                  refine wpTake_cons ?_ (by rfl) ?_ ?_
                  rotate_left
                  · (intro W9 hSW; obtain ⟨hs0, hs4, hsw⟩ := hSW; go_simp; try with_reducible rfl)
                  simp only [Act.put, List.setIfInBounds_toArray, List.set_cons_zero, List.set_cons_succ]
                  refine wpTake_cons ?_ (by rfl) ?_ ?_
                  rotate_left
                  · (intro W9 hSW; obtain ⟨hs0, hs4, hsw⟩ := hSW; go_simp; try with_reducible rfl)
                  simp only [Act.put, List.setIfInBounds_toArray, List.set_cons_zero, List.set_cons_succ]
                  refine wpTake_cons ?_ (by rfl) ?_ ?_
                  rotate_left
                  · (intro W9 hSW; obtain ⟨hs0, hs4, hsw⟩ := hSW; go_simp; try with_reducible rfl)
                  simp only [Act.put, List.setIfInBounds_toArray, List.set_cons_zero, List.set_cons_succ]
                  refine wpTake_cons ?_ (by rfl) ?_ ?_
                  rotate_left
                  · (intro W9 hSW; obtain ⟨hs0, hs4, hsw⟩ := hSW; go_simp; try with_reducible rfl)
                  simp only [Act.put, List.setIfInBounds_toArray, List.set_cons_zero, List.set_cons_succ]
                  refine wpTake_cons ?_ (by rfl) ?_ ?_
                  rotate_left
                  · (intro W9 hSW; obtain ⟨hs0, hs4, hsw⟩ := hSW; go_simp; try with_reducible rfl)
                  simp only [Act.put, List.setIfInBounds_toArray, List.set_cons_zero, List.set_cons_succ]
                  refine wpTake_cons ?_ (by rfl) ?_ ?_
                  rotate_left
                  · (intro W9 hSW; obtain ⟨hs0, hs4, hsw⟩ := hSW; go_simp; try with_reducible rfl)
                  simp only [Act.put, List.setIfInBounds_toArray, List.set_cons_zero, List.set_cons_succ]
                  refine wpTake_cons ?_ (by rfl) ?_ ?_
                  rotate_left
                  · (intro W9 hSW; obtain ⟨hs0, hs4, hsw⟩ := hSW; go_simp; try with_reducible rfl)
                  simp only [Act.put, List.setIfInBounds_toArray, List.set_cons_zero, List.set_cons_succ]
                  refine wpTake_cons ?_ (by rfl) ?_ ?_
                  rotate_left
                  · (intro W9 hSW; obtain ⟨hs0, hs4, hsw⟩ := hSW; go_simp; try with_reducible rfl)
                  simp only [Act.put, List.setIfInBounds_toArray, List.set_cons_zero, List.set_cons_succ]
                  refine wpTake_cons ?_ (by rfl) ?_ ?_
                  rotate_left
                  · (intro W9 hSW; obtain ⟨hs0, hs4, hsw⟩ := hSW; go_simp; try with_reducible rfl)
                  simp only [Act.put, List.setIfInBounds_toArray, List.set_cons_zero, List.set_cons_succ]
                  refine wpTake_cons ?_ (by rfl) ?_ ?_
                  rotate_left
                  · (intro W9 hSW; obtain ⟨hs0, hs4, hsw⟩ := hSW; go_simp; try with_reducible rfl)
                  simp only [Act.put, List.setIfInBounds_toArray, List.set_cons_zero, List.set_cons_succ]
                  refine wpTake_cons ?_ (by rfl) ?_ ?_
                  rotate_left
                  · (intro W9 hSW; obtain ⟨hs0, hs4, hsw⟩ := hSW; go_simp; try with_reducible rfl)
                  simp only [Act.put, List.setIfInBounds_toArray, List.set_cons_zero, List.set_cons_succ]
                  refine wpTake_cons ?_ (by rfl) ?_ ?_
                  rotate_left
                  · (intro W9 hSW; obtain ⟨hs0, hs4, hsw⟩ := hSW; go_simp; try with_reducible rfl)
                  simp only [Act.put, List.setIfInBounds_toArray, List.set_cons_zero, List.set_cons_succ]
                  refine wpTake_cons ?_ (by rfl) ?_ ?_
                  rotate_left
                  · (intro W9 hSW; obtain ⟨hs0, hs4, hsw⟩ := hSW; go_simp; try with_reducible rfl)
                  simp only [Act.put, List.setIfInBounds_toArray, List.set_cons_zero, List.set_cons_succ]
                  refine wpTake_cons ?_ (by rfl) ?_ ?_
                  rotate_left
                  · (intro W9 hSW; obtain ⟨hs0, hs4, hsw⟩ := hSW; go_simp; try with_reducible rfl)
                  simp only [Act.put, List.setIfInBounds_toArray, List.set_cons_zero, List.set_cons_succ]
                  refine wpTake_cons ?_ (by rfl) ?_ ?_
                  rotate_left
                  · (intro W9 hSW; obtain ⟨hs0, hs4, hsw⟩ := hSW; go_simp; try with_reducible rfl)
                  simp only [Act.put, List.setIfInBounds_toArray, List.set_cons_zero, List.set_cons_succ]
                  refine wpTake_cons ?_ (by rfl) ?_ ?_
                  rotate_left
                  · (intro W9 hSW; obtain ⟨hs0, hs4, hsw⟩ := hSW; go_simp; try with_reducible rfl)
                  simp only [Act.put, List.setIfInBounds_toArray, List.set_cons_zero, List.set_cons_succ]
                  refine wpTake_cons ?_ (by rfl) ?_ ?_
                  rotate_left
                  · (intro W9 hSW; obtain ⟨hs0, hs4, hsw⟩ := hSW; go_simp; try with_reducible rfl)
                  simp only [Act.put, List.setIfInBounds_toArray, List.set_cons_zero, List.set_cons_succ]
                  refine wpTake_cons ?_ (by rfl) ?_ ?_
                  rotate_left
                  · (intro W9 hSW; obtain ⟨hs0, hs4, hsw⟩ := hSW; go_simp; try with_reducible rfl)
                  simp only [Act.put, List.setIfInBounds_toArray, List.set_cons_zero, List.set_cons_succ]
                  refine wpTake_cons ?_ (by rfl) ?_ ?_
                  rotate_left
                  · (intro W9 hSW; obtain ⟨hs0, hs4, hsw⟩ := hSW; go_simp; try with_reducible rfl)
                  simp only [Act.put, List.setIfInBounds_toArray, List.set_cons_zero, List.set_cons_succ]
                  refine wpTake_cons ?_ (by rfl) ?_ ?_
                  rotate_left
                  · (intro W9 hSW; obtain ⟨hs0, hs4, hsw⟩ := hSW; go_simp; try with_reducible rfl)
                  simp only [Act.put, List.setIfInBounds_toArray, List.set_cons_zero, List.set_cons_succ]
                  refine wpTake_cons ?_ (by rfl) ?_ ?_
                  rotate_left
                  · (intro W9 hSW; obtain ⟨hs0, hs4, hsw⟩ := hSW; go_simp; try with_reducible rfl)
                  simp only [Act.put, List.setIfInBounds_toArray, List.set_cons_zero, List.set_cons_succ]
                  refine wpTake_cons ?_ (by rfl) ?_ ?_
                  rotate_left
                  · (intro W9 hSW; obtain ⟨hs0, hs4, hsw⟩ := hSW; go_simp; try with_reducible rfl)
                  simp only [Act.put, List.setIfInBounds_toArray, List.set_cons_zero, List.set_cons_succ]
                  refine wpTake_cons ?_ (by rfl) ?_ ?_
                  rotate_left
                  · (intro W9 hSW; obtain ⟨hs0, hs4, hsw⟩ := hSW; go_simp; try with_reducible rfl)
                  simp only [Act.put, List.setIfInBounds_toArray, List.set_cons_zero, List.set_cons_succ]
                  refine wpTake_cons ?_ (by rfl) ?_ ?_
                  rotate_left
                  · (intro W9 hSW; obtain ⟨hs0, hs4, hsw⟩ := hSW; go_simp; try with_reducible rfl)
                  simp only [Act.put, List.setIfInBounds_toArray, List.set_cons_zero, List.set_cons_succ]
                  refine wpTake_cons ?_ (by rfl) ?_ ?_
                  rotate_left
                  · (intro W9 hSW; obtain ⟨hs0, hs4, hsw⟩ := hSW; go_simp; try with_reducible rfl)
                  simp only [Act.put, List.setIfInBounds_toArray, List.set_cons_zero, List.set_cons_succ]
                  refine wpTake_cons ?_ (by rfl) ?_ ?_
                  rotate_left
                  · (intro W9 hSW; obtain ⟨hs0, hs4, hsw⟩ := hSW; go_simp; try with_reducible rfl)
                  simp only [Act.put, List.setIfInBounds_toArray, List.set_cons_zero, List.set_cons_succ]
                  refine wpTake_nil ?_
                  have hgA := only_alloc (only_drew (only_refl wr none)) (.cells #[.int .u8 c.toNat] 5)
                  have hS := hide (And.intro (old_cell hgA hg2 x0) (And.intro (old_cell hgA hg2 x4) (old_cell hgA hgw2 xw)))
                  refine wpForce_cons fun K1 hK1 => ?_
                  refine step_valg (.slice (some ⟨wr.heap.size, 0, none⟩) 1 1) (wr.drew.alloc (.cells #[.int .u8 c.toNat] 5)) (by rfl) (by go_simp; rw [HTM.out]) ?_
                  refine hK1.out _ _ hS.out ?_
                  simp only [Act.put, List.setIfInBounds_toArray, List.set_cons_zero, List.set_cons_succ]
                  refine wpForce_cons fun K2 hK2 => ?_
                  refine step_convertg (.string ⟨#[c]⟩) (by rfl) (by exact run_str1 wr.drew c) ?_
                  refine hK2.out _ _ hS.out ?_
                  simp only [Act.put, List.setIfInBounds_toArray, List.set_cons_zero, List.set_cons_succ]
                  refine wpForce_cons fun K3 hK3 => ?_
                  refine step_concatg ⟨#[99]⟩ ⟨#[c]⟩ (by rfl) (by rfl) (by rfl) (by show 1 + 1 ≤ 9223372036854775807; omega) ?_
                  rw [E1.out]
                  refine hK3.out _ _ hS.out ?_
                  simp only [Act.put, List.setIfInBounds_toArray, List.set_cons_zero, List.set_cons_succ]
                  refine wpForce_cons fun K4 hK4 => ?_
                  refine step_valg (.bool false) (wr.drew.alloc (.cells #[.int .u8 c.toNat] 5)) (by rfl) (by go_simp; try with_reducible rfl) ?_
                  refine hK4.out _ _ hS.out ?_
                  simp only [Act.put, List.setIfInBounds_toArray, List.set_cons_zero, List.set_cons_succ]
                  refine wpForce_one ?_
                  go_wp2_with fail
                  refine Met.intro ?_
                  refine hK0 _ _ (Met.intro (hJ0 _ _ ?_))
                  (repeat apply Exists.intro)
                  refine ⟨?_, rfl⟩
                  exact ⟨rfl, hgA⟩
                case rest =>
                  obtain ⟨rfl, hgc⟩ := hcut
                  have HGC := hide hgc
                  by_cases h1 : 1 < k
                  · have q1 : decide ((1 : Int) < (k : Int)) = true := decide_eq_true (by omega)
                    obtain ⟨gz, oz, cz, y7, hcz, hgz, yi, hkL⟩ := HKX.out h1
                    have z7 := old_cell hgc hg2 y7
                    have zi := old_cell hgc hgz yi
                    have hik2 : (0 : Int) ≤ (i : Int) ∧ (i : Int) < (k : Int) := by omega
                    have hk0 : (0 : Int) ≤ (k : Int) := by omega
                    clear x0 x4 xw y7 yi hgc hgr2
                    go_wp2_with fail
                    go_roundg (gk - 1)
                    case rel => exact ⟨i + 1, by go_num, by omega, by have := HGI.out; omega, none_trans HGR2.out HGC.out⟩
                    case measure => have := HGI.out; omega
                  · have q1 : decide ((1 : Int) < (k : Int)) = false := decide_eq_false (by omega)
                    clear x0 x4 xw hgc hgr2
                    go_wp2_with fail
                    go_roundg (gk - 1)
                    case rel => exact ⟨i + 1, by go_num, by omega, by have := HGI.out; omega, none_trans HGR2.out HGC.out⟩
                    case measure => have := HGI.out; omega
              · obtain rfl : i = k := by omega
                have q0 : decide ((i : Int) < (i : Int)) = false := decide_eq_false (by omega)
                have hLl := HL.out
                have hLpos : L - 1 < P.ns.length := by omega
                have hlast := HF.out.2.2.2.2
                rw [List.getLast?_eq_getElem?, hLl, List.getElem?_eq_getElem hLpos] at hlast
                unfold notB at hlast
                simp only [] at hlast
                obtain ⟨_, _, _, _, _, hnl, hcl⟩ := HCS.out (L - 1) hLpos
                obtain ⟨kd, hkd⟩ : ∃ kd, P.ns[L - 1].kind = kd := ⟨_, rfl⟩
                rw [hkd] at hlast
                have xl : wr.cell? ⟨g, off + (L - 1) * 8, none⟩ = some (.int .i64 kd) := old_cell hgr2 hg (by have := hcl 0 (by omega); rw [Nat.add_zero] at this; rw [this]; show some (Value.int .i64 P.ns[L - 1].kind) = _; rw [hkd])
                obtain ⟨Lm, hLm⟩ : ∃ Lm, L - 1 = Lm := ⟨_, rfl⟩
                rw [hLm] at xl
                have hLz : (L : Int) - 1 = (Lm : Int) := by omega
                have hLb : (0 : Int) ≤ (Lm : Int) ∧ (Lm : Int) < (L : Int) := by omega
                have hLb2 : (L : Int) ≤ 34 := by have := HL2.out; have : (if b = true then 1 else 0) ≤ 1 := by split <;> omega
                                                 omega
                have HK3 := hide (show 1 < i → wr.cell? ⟨g, off + i * 8, none⟩ = some (.int .i64 3) ∧ (i : Int) < (L : Int) from fun h1 => by
                  have hkL : i < P.ns.length := by
                    rw [HL.out, HLP.out]; unfold lenP; rw [if_pos h1]; omega
                  obtain ⟨hk3, _⟩ := HKB.out hkL h1
                  obtain ⟨_, _, _, _, _, _, hck⟩ := HCS.out i hkL
                  refine ⟨old_cell hgr2 hg (by have := hck 0 (by omega); rw [Nat.add_zero] at this; rw [this]; show some (Value.int .i64 P.ns[i].kind) = _; rw [hk3]), by have := HL.out; omega⟩)
                have hi0 : (0 : Int) ≤ (i : Int) := by omega
                clear hlt hnl hcl hkd hLm hLl hLpos
                cases b with
                | true =>
                  obtain rfl : kd = 2 := by simpa using hlast
                  clear hlast
                  by_cases h1 : i = 1
                  · have q1 : decide ((i : Int) = 1) = true := decide_eq_true (by omega)
                    go_wp2_with fail
                    go_ret
                    exact ⟨rfl, none_trans G2.out HGR2.out⟩
                  · have q1 : decide ((i : Int) = 1) = false := decide_eq_false (by omega)
                    obtain ⟨y3, hiL⟩ := HK3.out (by have := HLK.out; omega)
                    go_wp2_with fail
                    go_ret
                    exact ⟨rfl, none_trans G2.out HGR2.out⟩
                | false =>
                  have q2 : decide (kd = 2) = false := decide_eq_false (by simpa using hlast)
                  have HQ3 := hide (show (kd == 2) = false by simpa using hlast)
                  clear hlast
                  by_cases h1 : i = 1
                  · have q1 : decide ((i : Int) = 1) = true := decide_eq_true (by omega)
                    go_wp2_with fail
                    go_ret
                    exact ⟨ret_bool (by rw [HQ3.out]; rfl), none_trans G2.out HGR2.out⟩
                  · have q1 : decide ((i : Int) = 1) = false := decide_eq_false (by omega)
                    obtain ⟨y3, hiL⟩ := HK3.out (by have := HLK.out; omega)
                    go_wp2_with fail
                    go_ret
                    exact ⟨ret_bool (by rw [HQ3.out]; rfl), none_trans G2.out HGR2.out⟩

end Go.Proofs.Ytgpfjcogaheopaa
