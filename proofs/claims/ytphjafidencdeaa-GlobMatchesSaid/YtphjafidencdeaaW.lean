/- The walks of the document's Parts, Has and one. -/
import Derived.Test.YtphjafidencdeaaZ
namespace Go.Proofs.Ytphjafidencdeaa
open Go.RowKit
set_option maxRecDepth 100000

def dcs (D : List DPt) : List Value := D.flatMap fun x => x.cells.toList
theorem dcs_snoc (D : List DPt) (x : DPt) : dcs (D ++ [x]) = dcs D ++ x.cells.toList := by simp [dcs]
theorem dcs_get (D : List DPt) : ∀ (n j : Nat) (hn : n < D.length) (_ : j < 259), (dcs D)[n * 259 + j]? = (D[n]).cells[j]? := by
  induction D with
  | nil => intro n j hn; simp at hn
  | cons x r ih =>
    intro n j hn hj
    have h : dcs (x :: r) = x.cells.toList ++ dcs r := by simp [dcs]
    have hl : x.cells.toList.length = 259 := by rw [Array.length_toList, DPt.size]
    cases n with
    | zero => rw [h, Nat.zero_mul, Nat.zero_add, List.getElem?_append_left (by omega), Array.getElem?_toList]; rfl
    | succ n =>
      rw [h, List.getElem?_append_right (by omega), hl, show (n + 1) * 259 + j - 259 = n * 259 + j by omega]
      exact ih n j (by simpa using hn) hj
theorem info45b : (Try.prog.info? 45).map (fun i => (i.zero, i.size, i.bytes)) = some (some (.agg d0.cells), 259, 259) := by kernel_rfl
/-- The parts so far, in the slice that Parts appends to. -/
structure AppD (w2 w : World) (v : Value) (D : List DPt) : Prop where
  own : Own w 45 259 v D.length (dcs D) 0
  chg : Chg nobody w2 w
  new : ∀ b, v.ownBlock = some b → w2.heap.size ≤ b
theorem AppD.nil (w : World) : AppD w w (.slice none 0 0) [] := ⟨Own.nil _ _ _ _, Chg.refl _ w, fun b hb => by simp [Value.ownBlock] at hb⟩
theorem AppD.grown {w2 w w' : World} {v : Value} {D : List DPt} (h : AppD w2 w v D) (hg : w.grownBy w' none) : AppD w2 w' v D :=
  have hc : Chg nobody w w' := Chg.of_grown hg (fun _ h => by cases h)
  ⟨h.own.chg hc (fun _ _ h => h), h.chg.trans hc (fun _ _ h => h), h.new⟩
section
variable {ops : Array Oper} {rest : List Oper} {o : Oper} {a : Act} {w w2 : World} {Q : Exit → Act → World → Prop}
theorem run_newD {y : Operand} {x : DPt} (ho : o.op = .buildSlice 40 1 #[(0, y)]) (hx : a.eval y = .agg x.cells) : (execOp a.eval o).run Try.prog w = .ok (.value (.slice (some ⟨w.heap.size, 0, none⟩) 1 1)) (w.alloc (.cells x.cells 45)) := by
  unfold execOp
  rw [ho]
  simp only [List.map_toArray, List.map_cons, List.map_nil, hx]
  kernel_rfl
theorem wpList_newD {y : Operand} (x : DPt) (hgd : o.guard = none) (ho : o.op = .buildSlice 40 1 #[(0, y)]) (hx : a.eval y = .agg x.cells) (h : wpList Try.prog ops Q rest (a.put o.dst (.slice (some ⟨w.heap.size, 0, none⟩) 1 1)) (w.alloc (.cells x.cells 45))) : wpList Try.prog ops Q (o :: rest) a w :=
  wpList_val _ _ hgd (run_newD ho hx) h
theorem wpList_appD {d : Option Tmp} {t : TypeId} {pos : String} {af : Array Edge} {s y : Operand} {v : Value} {D : List DPt} (x : DPt) (ht : t = 40) (h : AppD w2 w v D) (hs : a.eval s = v) (hx : a.eval y = .slice (some ⟨w.heap.size, 0, none⟩) 1 1) (hb : D.length ≤ 1000000)
    (hK : ∀ v' w', AppD w2 w' v' (D ++ [x]) → wpList Try.prog ops Q rest (a.put d v') w') :
    wpList Try.prog ops Q (⟨d, .call { callee := .builtin .append, args := #[s, y], argTypes := #[40, 40] }, t, pos, af, none⟩ :: rest) a (w.alloc (.cells x.cells 45)) := by
  subst ht
  have hmd := Own.made w x.cells 45 259 1 0 (by rw [DPt.size]) (by unfold maxLen; omega)
  have hsrc := Own.src (P := Try.prog) (tx := 40) (e' := 45) hmd (by kernel_rfl) (fun u hu => (Array.all_eq_true_iff_forall_mem.1 x.one_cells) u (by simpa using hu))
  refine wpList_appAt 45 (.agg d0.cells) 259 259 Try.underlying40 info45b (DPt.size d0) v D.length (dcs D) 0 _ 1 x.cells.toList hs hx (h.own.alloc _) (by omega) hsrc (by unfold maxLen; omega) (by omega) ?_
  intro v' w' ho hc hn _
  refine hK v' w' ⟨by rw [List.length_append, dcs_snoc]; exact ho, ((h.chg.alloc _).trans hc (fun i hi hb => by have := h.new i hb; omega)), fun b hb => ?_⟩
  rcases hn b hb with h1 | h1
  · exact h.new b h1
  · rw [World.size_alloc] at h1
    have := h.chg.size
    omega
end
theorem fill45 (w : World) (x : DPt) : DAt ((w.alloc (.cells d0.cells 45)).setCells w.heap.size 0 x.cells.toList) w.heap.size x ∧ w.grownBy ((w.alloc (.cells d0.cells 45)).setCells w.heap.size 0 x.cells.toList) none := by
  obtain ⟨f1, f2⟩ := DAt.store (x := d0) (Blk.new w 45 d0.cells) x
  exact ⟨f1, only_new (only_alloc (only_refl w none) _) (Nat.le_refl _) f2⟩

set_option maxHeartbeats 8000000 in
theorem rparts_any (p : List UInt8) (w : World) (hp : p.length ≤ 1000000) : Calls Try.prog 21 #[sv p] w fun e w' => ∃ v, e = .returned v ∧ AppD w w' v (dparts p 0) := by
  have h1 := sz p
  have Hset := hide (fun i w' hi => rset_any p i w' hp hi)
  unfold sv at Hset ⊢
  go_enter Try.func21, Try.ntmps21
  go_wp2_with fail
  go_loopw [3, 4] (fun vo vi wr => ∃ (D : List DPt) (i : Nat), vi = .int .i64 i ∧ i ≤ p.length ∧ D.length ≤ i ∧ AppD w wr vo D ∧ D ++ dparts p i = dparts p 0) (fun _ vi _ => p.length - (intOf vi).toNat)
  case atStart => exact ⟨[], 0, rfl, Nat.zero_le _, Nat.zero_le _, AppD.nil w, rfl⟩
  case round =>
    obtain ⟨D, i, rfl, hi, hDl, hA, hres⟩ := hrel
    have HA := hide hA
    have HR := hide hres
    clear hA hres
    by_cases hlt : i < p.length
    · have q0 : decide ((i : Int) < (p.length : Int)) = true := by simp; omega
      have hat := str_at' p i hlt
      have hib : (0 : Int) ≤ i ∧ (i : Int) < (p.length : Int) := by omega
      have hds := dparts_step hlt
      obtain ⟨hdp, hdl⟩ := dstep_pos hlt
      have hdd : p.getD i 0 = p[i] := getD_at hlt
      obtain ⟨c, hc⟩ : ∃ c, p[i] = c := ⟨_, rfl⟩
      rw [hc] at hat hdd
      have hset := Hset.out (i + 1) wr hlt
      rw [show (((i + 1 : Nat)) : Int) = (i : Int) + 1 by omega] at hset
      obtain ⟨X, hX⟩ : ∃ X, dsetF p (i + 1) = X := ⟨_, rfl⟩
      rw [hX] at hset
      have Hset1 := hide hset
      have Hds := hide hds
      clear hset hds
      by_cases h91 : c = 91
      · subst h91
        obtain ⟨x, e⟩ := X
        by_cases he : 0 < e
        · have hstep : dstep p i = (x, e) := by unfold dstep; rw [hdd, hX, if_pos ⟨rfl, he⟩]
          rw [hstep] at Hds hdp hdl
          have q1 : decide ((0 : Int) < (e : Int)) = true := by simp; omega
          clear hdd hX hc hstep
          go_wp2_with (first | (refine wpList_alloc45 rfl rfl ?_))
          refine Hset1.out.mono ?_
          rintro e1 w1 ⟨rfl, hg1⟩
          have HA1 := hide (HA.out.grown hg1)
          clear hg1
          go_wp2_with (first
            | (refine wpList_alloc45 rfl rfl ?_)
            | (refine wpList_store45 (b := w1.heap.size) (x := d0) x rfl _ _ rfl rfl rfl (Blk.new w1 45 d0.cells) ?_; (have HF := hide (fill45 w1 x)); generalize (w1.alloc (.cells d0.cells 45)).setCells w1.heap.size 0 x.cells.toList = W3 at HF ⊢; (have HA2 := hide (HA1.out.grown HF.out.2)))
            | (refine wpList_load45 (x := x) rfl _ rfl rfl HF.out.1 ?_)
            | (refine wpList_newD x rfl rfl rfl ?_)
            | (refine wpList_appD x rfl HA2.out rfl rfl (by omega) ?_; intro v' w4 ha; have HA3 := hide ha; clear ha))
          go_roundw
          case rel => exact ⟨D ++ [x], e, by go_num, by omega, by rw [List.length_append]; simp; omega, HA3.out, by rw [← HR.out, Hds.out, List.append_assoc]; rfl⟩
          case measure => simp [intOf]; omega
        · have hstep : dstep p i = (dlit 91, i + 1) := by unfold dstep; rw [hdd, hX, if_neg (fun h => he h.2), if_neg (by decide), if_neg (fun h => absurd h.1 (by decide))]
          rw [hstep] at Hds hdp hdl
          obtain rfl : e = 0 := by omega
          have q1 : decide ((0 : Int) < ((0 : Nat) : Int)) = false := by simp
          clear hdd hX hc hstep
          go_wp2_with (first | (refine wpList_alloc45 rfl rfl ?_))
          refine Hset1.out.mono ?_
          rintro e1 w1 ⟨rfl, hg1⟩
          have HA1 := hide (HA.out.grown hg1)
          clear hg1
          go_wp2_with (first
            | (refine wpList_alloc45 rfl rfl ?_)
            | (refine wpList_store45 (b := w1.heap.size) (x := d0) x rfl _ _ rfl rfl rfl (Blk.new w1 45 d0.cells) ?_; (have HF := hide (fill45 w1 x)); generalize (w1.alloc (.cells d0.cells 45)).setCells w1.heap.size 0 x.cells.toList = W3 at HF ⊢; (have HA2 := hide (HA1.out.grown HF.out.2)))
            | (refine wpList_blit 91 rfl rfl rfl ?_)
            | (refine wpList_newD (dlit 91) rfl rfl rfl ?_)
            | (refine wpList_appD (dlit 91) rfl HA2.out rfl rfl (by omega) ?_; intro v' w4 ha; have HA3 := hide ha; clear ha))
          go_roundw
          case rel => exact ⟨D ++ [dlit 91], i + 1, by go_num, by omega, by rw [List.length_append]; simp; omega, HA3.out, by rw [← HR.out, Hds.out, List.append_assoc]; rfl⟩
          case measure => simp [intOf]; omega
      · have n91 : ((c.toNat : Int) == 91) = false := byte_ne (d := 91) h91
        by_cases hsig : c = 42 ∨ c = 63
        · have hstep : dstep p i = (dsig c, i + 1) := by unfold dstep; rw [hdd, if_neg (fun h => h91 h.1), if_pos hsig]
          rw [hstep] at Hds hdp hdl
          clear hdd hX hc hstep h91
          rcases hsig with rfl | rfl
          · go_wp2_with (first
              | (refine wpList_bsig 42 rfl rfl rfl ?_)
              | (refine wpList_newD (dsig 42) rfl rfl rfl ?_)
              | (refine wpList_appD (dsig 42) rfl HA.out rfl rfl (by omega) ?_; intro v' w4 ha; have HA3 := hide ha; clear ha))
            go_roundw
            case rel => exact ⟨D ++ [dsig 42], i + 1, by go_num, by omega, by rw [List.length_append]; simp; omega, HA3.out, by rw [← HR.out, Hds.out, List.append_assoc]; rfl⟩
            case measure => simp [intOf]; omega
          · go_wp2_with (first
              | (refine wpList_bsig 63 rfl rfl rfl ?_)
              | (refine wpList_newD (dsig 63) rfl rfl rfl ?_)
              | (refine wpList_appD (dsig 63) rfl HA.out rfl rfl (by omega) ?_; intro v' w4 ha; have HA3 := hide ha; clear ha))
            go_roundw
            case rel => exact ⟨D ++ [dsig 63], i + 1, by go_num, by omega, by rw [List.length_append]; simp; omega, HA3.out, by rw [← HR.out, Hds.out, List.append_assoc]; rfl⟩
            case measure => simp [intOf]; omega
        · have n42 : ((c.toNat : Int) == 42) = false := byte_ne (d := 42) (fun h => hsig (.inl h))
          have n63 : ((c.toNat : Int) == 63) = false := byte_ne (d := 63) (fun h => hsig (.inr h))
          by_cases h92 : c = 92 ∧ i + 1 < p.length
          · obtain ⟨hc92, h2⟩ := h92
            have hd2 : p.getD (i + 1) 0 = p[i + 1] := getD_at h2
            have hstep : dstep p i = (dlit p[i + 1], i + 2) := by unfold dstep; rw [hdd, if_neg (fun h => h91 h.1), if_neg hsig, if_pos ⟨hc92, h2⟩, hd2]
            rw [hstep] at Hds hdp hdl
            have q92 : ((c.toNat : Int) == 92) = true := by rw [hc92]; rfl
            have q2 : decide ((i : Int) + 1 < (p.length : Int)) = true := by simp; omega
            have hat2 := str_at' p (i + 1) h2
            have hib2 : (i : Int) + 1 < (p.length : Int) := by omega
            obtain ⟨g, hg⟩ : ∃ g, p[i + 1] = g := ⟨_, rfl⟩
            rw [hg] at hat2 Hds
            clear hdd hX hc hstep h91 hsig hd2 hc92 hg
            go_wp2_with (first
              | (refine wpList_blit g rfl rfl rfl ?_)
              | (refine wpList_newD (dlit g) rfl rfl rfl ?_)
              | (refine wpList_appD (dlit g) rfl HA.out rfl rfl (by omega) ?_; intro v' w4 ha; have HA3 := hide ha; clear ha))
            go_roundw
            case rel => exact ⟨D ++ [dlit g], i + 2, by go_num, by omega, by rw [List.length_append]; simp; omega, HA3.out, by rw [← HR.out, Hds.out, List.append_assoc]; rfl⟩
            case measure => simp [intOf]; omega
          · have hstep : dstep p i = (dlit c, i + 1) := by unfold dstep; rw [hdd, if_neg (fun h => h91 h.1), if_neg hsig, if_neg h92]
            rw [hstep] at Hds hdp hdl
            have hw : ((c.toNat : Int) == 92) = false ∨ (((c.toNat : Int) == 92) = true ∧ decide ((i : Int) + 1 < (p.length : Int)) = false) := by
              by_cases hc92 : c = 92
              · exact .inr ⟨by rw [hc92]; rfl, by have : ¬ i + 1 < p.length := fun h => h92 ⟨hc92, h⟩; simp; omega⟩
              · exact .inl (byte_ne hc92)
            clear hdd hX hc hstep h91 hsig h92
            rcases hw with q92 | ⟨q92, q2⟩
            all_goals
              go_wp2_with (first
                | (refine wpList_blit c rfl rfl rfl ?_)
                | (refine wpList_newD (dlit c) rfl rfl rfl ?_)
                | (refine wpList_appD (dlit c) rfl HA.out rfl rfl (by omega) ?_; intro v' w4 ha; have HA3 := hide ha; clear ha))
              go_roundw
              case rel => exact ⟨D ++ [dlit c], i + 1, by go_num, by omega, by rw [List.length_append]; simp; omega, HA3.out, by rw [← HR.out, Hds.out, List.append_assoc]; rfl⟩
              case measure => simp [intOf]; omega
    · have q0 : decide ((i : Int) < (p.length : Int)) = false := by simp; omega
      have hD : D = dparts p 0 := by
        have := HR.out
        rw [dparts_end hlt, List.append_nil] at this
        exact this
      subst hD
      go_wp2_with fail
      go_ret
      exact ⟨_, rfl, HA.out⟩

theorem AppD.cell {w2 w : World} {v : Value} {D : List DPt} (h : AppD w2 w v D) {i : Nat} (hi : i < D.length) : ∃ g off cap, v = .slice (some ⟨g, off, none⟩) D.length cap ∧ g < w.heap.size ∧ ∀ j, j < 259 → w.cell? ⟨g, off + i * 259 + j, none⟩ = (D[i]).cells[j]? := by
  obtain ⟨g, off, cap, hv, _, _, hg, hc⟩ := h.own.some_ (by omega)
  refine ⟨g, off, cap, hv, hg, fun j hj => ?_⟩
  rw [Nat.add_assoc, hc _ (by omega), dcs_get D i j hi hj]

set_option maxHeartbeats 2000000 in
theorem rhas_any (p : List UInt8) (w : World) (hp : p.length ≤ 1000000) : Calls Try.prog 14 #[sv p] w fun e w' => e = .returned (.bool (hasF p)) ∧ w.grownBy w' none := by
  have Hpa := hide (fun w' => rparts_any p w' hp)
  have hh : hasF p = (dparts p 0).any (fun x => x.k != 99) := (dparts_has p).symm
  have hlen := dparts_len p _ 0 rfl
  rw [hh]
  obtain ⟨D, hD⟩ : ∃ D, dparts p 0 = D := ⟨_, rfl⟩
  rw [hD] at Hpa hlen ⊢
  clear hh hD
  unfold sv at Hpa ⊢
  go_enter Try.func14, Try.ntmps14
  go_wp2_with fail
  refine (Hpa.out _).mono ?_
  rintro e w1 ⟨v, rfl, hA⟩
  obtain ⟨va, vcap, rfl, hvc, hvm⟩ := hA.own.form
  have HA := hide hA
  clear hA
  go_wp2_with fail
  go_loopw [4] (fun vi wr => ∃ i : Nat, vi = .int .i64 i ∧ i ≤ D.length ∧ (D.take i).any (fun x => x.k != 99) = false ∧ wr = w1) (fun vi _ => D.length - (intOf vi).toNat)
  case atStart => exact ⟨0, rfl, Nat.zero_le _, rfl, rfl⟩
  case round =>
    obtain ⟨i, rfl, hi, han, rfl⟩ := hrel
    have Han := hide han
    clear han
    by_cases hlt : i < D.length
    · have q0 : decide ((i : Int) < (D.length : Int)) = true := by simp; omega
      have hib : (0 : Int) ≤ i ∧ (i : Int) < (D.length : Int) := by omega
      obtain ⟨g, off, cap', hva, hg, hcell⟩ := HA.out.cell hlt
      injection hva with hva _ _
      subst hva
      have m0 := (hcell 0 (by omega)).trans (DPt.c0 _)
      rw [Nat.add_zero] at m0
      have Htk := hide (show D.take (i + 1) = D.take i ++ [D[i]] by rw [List.take_succ_eq_append_getElem hlt])
      obtain ⟨x, hx⟩ : ∃ x, D[i] = x := ⟨_, rfl⟩
      have Hx := hide hx
      rw [hx] at m0 Htk
      clear hcell hx
      by_cases h99 : x.k = 99
      · have q1 : ((x.k.toNat : Int) == 99) = true := by rw [h99]; rfl
        have q2 : ((x.k.toNat : Int) != 99) = false := by rw [h99]; rfl
        have H99 := hide h99
        clear h99
        go_wp2_with fail
        go_roundw
        case rel => exact ⟨i + 1, by go_num, by omega, by rw [Htk.out, List.any_append, Han.out]; simp [H99.out], trivial⟩
        case measure => simp [intOf]; omega
      · have q1 : ((x.k.toNat : Int) == 99) = false := byte_ne h99
        have q2 : ((x.k.toNat : Int) != 99) = true := by simp only [bne, q1]; rfl
        have Hyes := hide (show D.any (fun x => x.k != 99) = true by
          rw [List.any_eq_true]
          exact ⟨x, by rw [← Hx.out]; exact List.getElem_mem hlt, by simpa using h99⟩)
        clear h99
        go_wp2_with fail
        go_ret
        exact ⟨by rw [Hyes.out]; rfl, HA.out.chg.grown (fun _ _ h => h)⟩
    · have q0 : decide ((i : Int) < (D.length : Int)) = false := by simp; omega
      have Hno := hide (show D.any (fun x => x.k != 99) = false by have := Han.out; rwa [List.take_of_length_le (by omega)] at this)
      go_wp2_with fail
      go_ret
      exact ⟨by rw [Hno.out]; rfl, HA.out.chg.grown (fun _ _ h => h)⟩

set_option maxHeartbeats 2000000 in
theorem rone_any (x : DPt) (b : UInt8) (w : World) : Calls Try.prog 22 #[.agg x.cells, .int .u8 b.toNat] w fun e w' => e = .returned (.bool (x.one b)) ∧ w.grownBy w' none := by
  have hB := Blk.new w 45 x.cells
  have hg := only_alloc (only_refl w none) (.cells x.cells 45)
  have m0 := (Blk.cell hB 0).trans x.c0
  have m1 := (Blk.cell hB 1).trans x.c1
  have m2 := (Blk.cell hB 2).trans x.c2
  have hb8 := b.toNat_lt
  have m3 := (Blk.cell hB (3 + b.toNat)).trans (x.cs b.toNat hb8)
  rw [UInt8.ofNat_toNat] at m3
  have hbb : (0 : Int) ≤ (b.toNat : Int) ∧ (b.toNat : Int) < 256 := by omega
  obtain ⟨CC, hCC⟩ : ∃ CC, x.cells = CC := ⟨_, rfl⟩
  rw [hCC] at m0 m1 m2 m3 hg ⊢
  have Hg := hide hg
  clear hg hB hCC
  obtain ⟨k, c, n, f⟩ := x
  have hone : DPt.one ⟨k, c, n, f⟩ b = if k = 99 then c == b else if k = 91 then f b != n else k == 63 := rfl
  rw [hone]
  obtain ⟨fb, hfb⟩ : ∃ fb, f b = fb := ⟨_, rfl⟩
  simp only [hfb] at m3 ⊢
  clear hone hfb
  by_cases h99 : k = 99
  · rw [if_pos h99]
    have q1 : ((k.toNat : Int) == 99) = true := by rw [h99]; rfl
    have qe : ((c.toNat : Int) == (b.toNat : Int)) = (c == b) := by
      by_cases e : c = b
      · rw [e]; simp
      · rw [byte_ne e]; simp [e]
    clear h99
    go_enter Try.func22, Try.ntmps22
    go_wp2_with (first | (refine wpList_val (o := ⟨some 2, _, _, _, _, _⟩) (.pointer (some ⟨w.heap.size, 0, none⟩)) (w.alloc (.cells CC 45)) rfl (by first | rfl | kernel_rfl) ?_))
    go_ret
    exact ⟨by rw [← qe]; rfl, Hg.out⟩
  · rw [if_neg h99]
    have q1 : ((k.toNat : Int) == 99) = false := byte_ne h99
    clear h99
    by_cases h91 : k = 91
    · rw [if_pos h91]
      have q2 : ((k.toNat : Int) == 91) = true := by rw [h91]; rfl
      clear h91
      go_enter Try.func22, Try.ntmps22
      go_wp2_with (first | (refine wpList_val (o := ⟨some 2, _, _, _, _, _⟩) (.pointer (some ⟨w.heap.size, 0, none⟩)) (w.alloc (.cells CC 45)) rfl (by first | rfl | kernel_rfl) ?_))
      go_quiet (fail)
      go_wp2_with fail
      go_ret
      exact ⟨rfl, only_drewN Hg.out _⟩
    · rw [if_neg h91]
      have q2 : ((k.toNat : Int) == 91) = false := byte_ne h91
      have qe : ((k.toNat : Int) == 63) = (k == 63) := by
        by_cases e : k = 63
        · rw [e]; rfl
        · rw [show ((k.toNat : Int) == 63) = false from byte_ne (d := 63) e]; simp [e]
      clear h91
      go_enter Try.func22, Try.ntmps22
      go_wp2_with (first | (refine wpList_val (o := ⟨some 2, _, _, _, _, _⟩) (.pointer (some ⟨w.heap.size, 0, none⟩)) (w.alloc (.cells CC 45)) rfl (by first | rfl | kernel_rfl) ?_))
      go_ret
      exact ⟨by rw [← qe]; rfl, Hg.out⟩

end Go.Proofs.Ytphjafidencdeaa
