/- From: an env of texts. -/
import Derived.Test.YtdcfpklohleoiaaDoorJ
import Derived.Test.YtdcfpklohleoiaaDoorK
namespace Go.Proofs.YtdcfpklohleoiaaDoor
open Go.RowKit
set_option maxRecDepth 100000

theorem own_ne {w : World} {size n k b : Nat} {v : Value} {xs : List Value} {T : TypeId} {cs : Array Value} {e : TypeId} (h : Own w e size v n xs k) (hb : Blk w b T cs) (hne : e ≠ T) : v.ownBlock ≠ some b := by
  intro he
  rcases h.2 with ⟨rfl, _⟩ | ⟨g, off, cap, cur, fz, rfl, hg, _⟩
  · simp [Value.ownBlock] at he
  · have he : g = b := by simpa [Value.ownBlock] using he
    subst he
    have hb : w.heap[g]? = some (.cells cs T (0, 0)) := hb
    rw [hg] at hb
    injection hb with hb
    injection hb with _ h2 _
    exact hne h2
def stepF (vs : List V) (s : List UInt8) : List V :=
  if (cutF s).2.2 = false then vs
  else if (setF vs (cutF s).1 (cutF s).2.1).2 = 0 then (markF (setF vs (cutF s).1 (cutF s).2.1).1 (cutF s).1 true false).1
  else vs
def fromF (ss : List (List UInt8)) : List V := ss.foldl stepF []
theorem from_snoc (ss : List (List UInt8)) (s : List UInt8) : fromF (ss ++ [s]) = stepF (fromF ss) s := by simp [fromF, List.foldl_append]
theorem wf_step {vs : List V} (h : WF vs) (s : List UInt8) : WF (stepF vs s) := by
  unfold stepF
  split
  · exact h
  · split
    · exact wf_mark (wf_set h _ _) _ _ _
    · exact h
theorem wf_from (ss : List (List UInt8)) : WF (fromF ss) := by
  unfold fromF
  have : ∀ (l : List (List UInt8)) (vs : List V), WF vs → WF (l.foldl stepF vs) := by
    intro l
    induction l with
    | nil => intro vs h; exact h
    | cons s l ih => intro vs h; exact ih _ (wf_step h s)
  exact this ss [] WF.nil
/-- A slice of these texts. -/
def StrL (w : World) (a : Option Addr) (ss : List (List UInt8)) : Prop := ∀ i (h : i < ss.length), ∃ b off, a = some ⟨b, off, none⟩ ∧ b < w.heap.size ∧ w.cell? ⟨b, off + i, none⟩ = some (sv ss[i])
/-- An env of these. -/
def EnvIs (w : World) (vs : List V) (e : Ending) (w' : World) : Prop := ∃ v', e = .returned (envV v') ∧ Own w' 35 4 v' vs.length (vcs vs) 0 ∧ w.grownBy w' none
/-- An env's own variable. -/
structure EnvAt (w : World) (b : Nat) (v : Value) (vs : List V) : Prop where
  blk : Blk w b 27 #[v, .slice none 0 0, .string ⟨#[]⟩]
  own : Own w 35 4 v vs.length (vcs vs) 0
theorem EnvAt.grown {w w' : World} {b : Nat} {v : Value} {vs : List V} (h : EnvAt w b v vs) (hg : w.grownBy w' none) : EnvAt w' b v vs := ⟨Blk.grown h.blk hg (by simp), h.own.none_ hg⟩
theorem EnvAt.alloc {w : World} {b : Nat} {v : Value} {vs : List V} (h : EnvAt w b v vs) (o : Obj) : EnvAt (w.alloc o) b v vs := ⟨h.blk.alloc o, h.own.alloc o⟩
/-- The variable is set anew. -/
theorem EnvAt.put {w : World} {b : Nat} {v v' x y : Value} {vs : List V} (h : Blk w b 27 #[v', x, y]) (ho : Own w 35 4 v vs.length (vcs vs) 0) : EnvAt (((w.setCell ⟨b, 0, none⟩ v).setCell ⟨b, 1, none⟩ (.slice none 0 0)).setCell ⟨b, 2, none⟩ (.string ⟨#[]⟩)) b v vs :=
  ⟨fin27 h _ _ _, far27 ho (own_ne ho h (by decide)) _ _ _⟩

set_option maxHeartbeats 4000000 in
theorem from_any (ss : List (List UInt8)) (a : Option Addr) (cap : Nat) (w : World) (hss : StrL w a ss) (hl : ss.length ≤ 1000000) (hlen : ∀ s ∈ ss, s.length ≤ 9223372036854775807) :
    Calls Tryd.prog 8 #[.slice a ss.length cap] w (EnvIs w (fromF ss)) := by
  have Hs := hide hss
  have Hlen := hide hlen
  have Hcut := hide (fun s w' (h : s.length ≤ 9223372036854775807) => cut26 s w' h)
  have Hset := hide (fun vs m val v w' hw ho hm hv => set_any vs m val v w' hw ho hm hv)
  have Hmark := hide (fun vs m v w' hw ho hm => mark_any vs m true false v w' hw ho hm)
  unfold sv at Hcut
  unfold sv envV at Hset Hmark
  clear hss hlen
  have hb2 := (Blk.new w 27 #[.slice none 0 0, .slice none 0 0, .string ⟨#[]⟩]).alloc (.cells #[.slice none 0 0, .slice none 0 0, .string ⟨#[]⟩] 27)
  have hb3 := Blk.new (w.alloc (.cells #[.slice none 0 0, .slice none 0 0, .string ⟨#[]⟩] 27)) 27 #[.slice none 0 0, .slice none 0 0, .string ⟨#[]⟩]
  rw [World.size_alloc] at hb3
  have HB20 := hide hb2
  have HB30 := hide hb3
  clear hb2 hb3
  go_enter Tryd.func8, Tryd.ntmps8
  go_wp2_with fail
  go_loopw [13] (fun v13 wr => ∃ (k : Nat) (v : Value), v13 = .int .i64 k ∧ k ≤ ss.length ∧ Blk wr w.heap.size 27 #[.slice none 0 0, .slice none 0 0, .string ⟨#[]⟩] ∧ EnvAt wr (w.heap.size + 1) v (fromF (ss.take k)) ∧ w.grownBy wr none) (fun v13 _ => ss.length - (intOf v13).toNat)
  case atStart => exact ⟨0, _, rfl, Nat.zero_le _, HB20.out, ⟨HB30.out, Own.nil _ _ _ _⟩, only_alloc (only_alloc (only_refl w none) _) _⟩
  case round =>
    obtain ⟨k, v, rfl, hk, hb2, hE, hG⟩ := hrel
    obtain ⟨av, cv, rfl, _, _⟩ := hE.own.form
    obtain ⟨nv, hnv⟩ : ∃ nv, (fromF (ss.take k)).length = nv := ⟨_, rfl⟩
    rw [hnv] at hE
    have HNV := hide hnv
    clear hnv
    have HB2 := hide hb2
    have HE := hide hE
    have HG := hide hG
    obtain ⟨d0, d1, d2⟩ := res27 hE.blk
    have z0 := Blk.frozen hE.blk 0
    have z1 := Blk.frozen hE.blk 1
    have z2 := Blk.frozen hE.blk 2
    have lb3 := Blk.lt hE.blk
    obtain ⟨e0, e1, e2⟩ := res27 hb2
    have y0 := Blk.frozen hb2 0
    have y1 := Blk.frozen hb2 1
    have y2 := Blk.frozen hb2 2
    have lb2 := Blk.lt hb2
    by_cases hlt : k < ss.length
    · have q0 : decide ((k : Int) < (ss.length : Int)) = true := decide_eq_true (by omega)
      have hib : (0 : Int) ≤ k ∧ (k : Int) < (ss.length : Int) := by omega
      obtain ⟨b, off, rfl, hb, hc⟩ := Hs.out k hlt
      have c0 := old_cell hG hb hc
      have hbs : b < wr.heap.size := Nat.lt_of_lt_of_le hb hG.size
      have hsl := Hlen.out ss[k] (List.getElem_mem hlt)
      have hstep : fromF (ss.take (k + 1)) = stepF (fromF (ss.take k)) ss[k] := by rw [List.take_succ_eq_append_getElem hlt, from_snoc]
      have hwf := wf_from (ss.take k)
      obtain ⟨s, hs⟩ : ∃ s, ss[k] = s := ⟨_, rfl⟩
      rw [hs] at c0 hsl hstep
      unfold sv at c0
      obtain ⟨vs, hvs⟩ : ∃ vs, fromF (ss.take k) = vs := ⟨_, rfl⟩
      rw [hvs] at HE hstep hwf hE
      have hcl := cut_len s
      have hct := fun w' => Hcut.out s w' hsl
      unfold stepF at hstep
      obtain ⟨C, hC⟩ : ∃ C, cutF s = C := ⟨_, rfl⟩
      rw [hC] at hct hstep hcl
      obtain ⟨nm, val, fl⟩ := C
      simp only at hct hstep hcl
      have zn := sz nm
      have zv := sz val
      have HCT := hide hct
      have HWF := hide hwf
      clear hct hC hs hvs hc hb2 hE hG
      cases fl with
      | false =>
        rw [if_pos rfl] at hstep
        have HST := hide hstep
        clear hstep hwf
        go_wp2_with fail
        refine (HCT.out _).mono ?_
        rintro e w3 ⟨rfl, g3⟩
        have HE3 := hide (HE.out.grown g3)
        have HB3 := hide (Blk.grown HB2.out g3 (by simp))
        have HG3 := hide (none_trans HG.out g3)
        clear g3
        go_wp2_with fail
        go_roundw
        case rel => exact ⟨k + 1, _, by go_num, by omega, HB3.out, by rw [HST.out]; exact HE3.out, HG3.out⟩
        case measure => simp [intOf]; omega
      | true =>
        rw [if_neg (fun h => Bool.noConfusion h)] at hstep
        have hst := fun w' (ho : Own w' 35 4 (.slice av nv cv) vs.length (vcs vs) 0) => Hset.out vs nm val _ w' HWF.out ho (by omega) (by omega)
        have hwf2 := wf_set HWF.out nm val
        obtain ⟨R, hR⟩ : ∃ R, setF vs nm val = R := ⟨_, rfl⟩
        rw [hR] at hst hstep hwf2
        obtain ⟨L, kk⟩ := R
        simp only at hst hstep hwf2
        unfold EnvPost at hst
        simp only at hst
        have HSET := hide hst
        have HWF2 := hide hwf2
        clear hst hR hwf hwf2
        by_cases hk0 : kk = 0
        · subst hk0
          rw [if_pos rfl] at hstep
          have hmk := fun v w' (ho : Own w' 35 4 v L.length (vcs L) 0) => Hmark.out L nm v w' HWF2.out ho (by omega)
          obtain ⟨M, hM⟩ : ∃ M, markF L nm true false = M := ⟨_, rfl⟩
          rw [hM] at hmk hstep
          obtain ⟨N, kn⟩ := M
          unfold EnvPost at hmk
          simp only at hmk hstep
          have HMK := hide hmk
          have HST := hide hstep
          clear hmk hstep hM
          go_wp2_with fail
          refine (HCT.out _).mono ?_
          rintro e w3 ⟨rfl, g3⟩
          have HE3 := hide (HE.out.grown g3)
          have HB3 := hide (Blk.grown HB2.out g3 (by simp))
          have HG3 := hide (none_trans HG.out g3)
          clear g3 d0 d1 d2 z0 z1 z2 lb3 e0 e1 e2 y0 y1 y2 lb2
          obtain ⟨d0, d1, d2⟩ := res27 HE3.out.blk
          have lb3 := Blk.lt HE3.out.blk
          go_wp2_with fail
          refine (HSET.out _ HE3.out.own).mono ?_
          rintro e w4 ⟨v4, rfl, ho4, g4⟩
          obtain ⟨a4, c4, rfl, _, _⟩ := ho4.form
          have HO4 := hide (ho4.alloc (.cells #[.slice a4 L.length c4, .slice none 0 0, .string ⟨#[]⟩] 27))
          have HE4 := hide ((HE3.out.grown g4).alloc (.cells #[.slice a4 L.length c4, .slice none 0 0, .string ⟨#[]⟩] 27))
          have HB4 := hide (Blk.alloc (Blk.grown HB3.out g4 (by simp)) (.cells #[.slice a4 L.length c4, .slice none 0 0, .string ⟨#[]⟩] 27))
          have HG4 := hide (only_alloc (none_trans HG3.out g4) (.cells #[.slice a4 L.length c4, .slice none 0 0, .string ⟨#[]⟩] 27))
          clear g4 d0 d1 d2 lb3 ho4
          unfold envV
          go_wp2_with fail
          refine (HMK.out (.slice a4 L.length c4) _ HO4.out).mono ?_
          rintro e w5 ⟨v5, rfl, ho5, g5⟩
          obtain ⟨a5, c5, rfl, _, _⟩ := ho5.form
          have HE5 := hide (HE4.out.grown g5)
          have HB5 := hide (Blk.grown HB4.out g5 (by simp))
          have HG5 := hide (none_trans HG4.out g5)
          have HO5 := hide ho5
          clear g5 ho5
          obtain ⟨d0, d1, d2⟩ := res27 HE5.out.blk
          have z0 := Blk.frozen HE5.out.blk 0
          have z1 := Blk.frozen HE5.out.blk 1
          have z2 := Blk.frozen HE5.out.blk 2
          have lb3 := Blk.lt HE5.out.blk
          unfold envV
          go_wp2_with fail
          go_roundw
          case rel =>
            refine ⟨k + 1, _, by go_num, by omega, ?_, by rw [HST.out]; exact EnvAt.put HE5.out.blk HO5.out, gr27 HG5.out (by omega) _ _ _⟩
            exact ((HB5.out.far (p := ⟨w.heap.size + 1, 0, none⟩) (by show w.heap.size ≠ w.heap.size + 1; omega) _).far (p := ⟨w.heap.size + 1, 1, none⟩) (by show w.heap.size ≠ w.heap.size + 1; omega) _).far (p := ⟨w.heap.size + 1, 2, none⟩) (by show w.heap.size ≠ w.heap.size + 1; omega) _
          case measure => simp [intOf]; omega
        · have qk : (kk == 0) = false := by rw [beq_eq_false_iff_ne]; exact hk0
          rw [if_neg hk0] at hstep
          have HST := hide hstep
          clear hstep hk0
          go_wp2_with fail
          refine (HCT.out _).mono ?_
          rintro e w3 ⟨rfl, g3⟩
          have HE3 := hide (HE.out.grown g3)
          have HB3 := hide (Blk.grown HB2.out g3 (by simp))
          have HG3 := hide (none_trans HG.out g3)
          clear g3 d0 d1 d2 z0 z1 z2 lb3 e0 e1 e2 y0 y1 y2 lb2
          obtain ⟨d0, d1, d2⟩ := res27 HE3.out.blk
          have lb3 := Blk.lt HE3.out.blk
          go_wp2_with fail
          refine (HSET.out _ HE3.out.own).mono ?_
          rintro e w4 ⟨v4, rfl, ho4, g4⟩
          obtain ⟨a4, c4, rfl, _, _⟩ := ho4.form
          have HE4 := hide ((HE3.out.grown g4).alloc (.cells #[.slice a4 L.length c4, .slice none 0 0, .string ⟨#[]⟩] 27))
          have HB4 := hide (Blk.alloc (Blk.grown HB3.out g4 (by simp)) (.cells #[.slice a4 L.length c4, .slice none 0 0, .string ⟨#[]⟩] 27))
          have HG4 := hide (only_alloc (none_trans HG3.out g4) (.cells #[.slice a4 L.length c4, .slice none 0 0, .string ⟨#[]⟩] 27))
          clear g4 d0 d1 d2 lb3 ho4
          unfold envV
          go_wp2_with fail
          go_roundw
          case rel => exact ⟨k + 1, _, by go_num, by omega, HB4.out, by rw [HST.out]; exact HE4.out, HG4.out⟩
          case measure => simp [intOf]; omega
    · obtain rfl : k = ss.length := by omega
      have q0 : decide ((ss.length : Int) < (ss.length : Int)) = false := decide_eq_false (by omega)
      clear hb2 hE hG
      go_wp2_with fail
      have hff := fin27 HB2.out (.slice av nv cv) (.slice none 0 0) (.string ⟨#[]⟩)
      have hgg := gr27 HG.out (b := w.heap.size) (Nat.le_refl _) (.slice av nv cv) (.slice none 0 0) (.string ⟨#[]⟩)
      have hoo := far27 HE.out.own (own_ne HE.out.own HB2.out (by decide)) (.slice av nv cv) (.slice none 0 0) (.string ⟨#[]⟩)
      generalize ((wr.setCell ⟨w.heap.size, 0, none⟩ (.slice av nv cv)).setCell ⟨w.heap.size, 1, none⟩ (.slice none 0 0)).setCell ⟨w.heap.size, 2, none⟩ (.string ⟨#[]⟩) = W9 at hff hgg hoo ⊢
      obtain ⟨f0, f1, f2⟩ := res27 hff
      refine bodyPost_ret (v := .agg #[.slice av nv cv, .slice none 0 0, .string ⟨#[]⟩]) (by simp [results, Tryd.results8, go_sem, f0, f1, f2]) rfl ?_
      exact ⟨_, rfl, by rw [List.take_length] at hoo; exact hoo, hgg⟩

end Go.Proofs.YtdcfpklohleoiaaDoor
