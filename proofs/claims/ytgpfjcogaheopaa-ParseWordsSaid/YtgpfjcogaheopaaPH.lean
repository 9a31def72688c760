/- begins, any. -/
import Derived.Test.YtgpfjcogaheopaaPG
set_option linter.all false
namespace Go.Proofs.Ytgpfjcogaheopaa
open Go.RowKit Lx
set_option maxRecDepth 100000

theorem RIs.few {av : Nat → Prop} {base : Nat → Prop} {rb d : Nat} {w : World} {ts : List Tok} {ns : List Nd} (h : RIs av base w rb ts ns d) : ns.length + 10 * ts.length ≤ 100000 := by
  obtain ⟨vt, vn, h⟩ := h
  exact h.few
theorem RIs.txt {av : Nat → Prop} {base : Nat → Prop} {rb d : Nat} {w : World} {ts : List Tok} {ns : List Nd} (h : RIs av base w rb ts ns d) : ∀ t ∈ ts, TokOk t := by
  obtain ⟨vt, vn, h⟩ := h
  exact h.txt
theorem box41 {w w' : World} {t : Tok} (hg : (w.alloc (.cells #[.int .i64 t.k, .string ⟨t.t.toArray⟩, .int .i64 t.a] 41)).grownBy w' none) : w'.cell? ⟨w.heap.size, 0, none⟩ = some (.int .i64 t.k) ∧ w'.cell? ⟨w.heap.size, 1, none⟩ = some (.string ⟨t.t.toArray⟩) ∧ w'.cell? ⟨w.heap.size, 2, none⟩ = some (.int .i64 t.a) ∧ w.heap.size < w'.heap.size := by
  have h := Blk.grown (Blk.new w 41 #[.int .i64 t.k, .string ⟨t.t.toArray⟩, .int .i64 t.a]) hg (by simp)
  exact ⟨Blk.cell h 0, Blk.cell h 1, Blk.cell h 2, Blk.lt h⟩
set_option maxHeartbeats 8000000 in
theorem begins_any (av : Nat → Prop) (base : Nat → Prop) (rb d : Nat) (ts : List Tok) (ns : List Nd) (w : World) (h : RIs av base w rb ts ns d) :
    Calls Try.prog 43 #[.pointer (some ⟨rb, 0, none⟩)] w fun e w' => e = .returned (.bool (beginsB ts)) ∧ w.grownBy w' none := by
  obtain ⟨vt, vn, h⟩ := h
  obtain ⟨t, r, g, off, cap, rfl, rfl, hc, hg, c0, c1, c2⟩ := h.head
  obtain ⟨d0, d1, d2⟩ := h.cells
  have lb := Blk.lt h.blk
  have hib : (0 : Int) < (((t :: r).length : Nat) : Int) := by simp only [List.length_cons]; omega
  have HH := hide h
  have HTX := hide (h.txt t (List.mem_cons_self ..))
  obtain ⟨L, hL⟩ : ∃ L, (t :: r).length = L := ⟨_, rfl⟩
  rw [hL] at d0 hib hc
  clear h hL
  have HB := hide (show beginsB (t :: r) = (cmpB t || rdrB t || t.k == 3 || (t.k == 1 && (t.t == wBang || t.t == wIn || !resB t.t))) from rfl)
  have Hc := hide (fun W => compounds_any t W)
  have Hr := hide (fun W => redirects_any t W)
  have Hs := hide (fun W => reserved_any t.t W)
  obtain ⟨B, hB⟩ : ∃ B, beginsB (t :: r) = B := ⟨_, rfl⟩
  rw [hB] at HB ⊢
  obtain ⟨b1, hb1⟩ : ∃ b1, cmpB t = b1 := ⟨_, rfl⟩
  obtain ⟨b2, hb2⟩ : ∃ b2, rdrB t = b2 := ⟨_, rfl⟩
  obtain ⟨b3, hb3⟩ : ∃ b3, resB t.t = b3 := ⟨_, rfl⟩
  rw [hb1] at HB Hc
  rw [hb2] at HB Hr
  rw [hb3] at HB Hs
  clear hB hb1 hb2 hb3 HTX HH
  obtain ⟨tk, tt, ta⟩ := t
  simp only [] at c0 c1 c2 HB Hs
  unfold tokV sv at Hc Hr
  unfold sv at Hs
  simp only [] at Hc Hr
  go_enter Try.func43, Try.ntmps43
  go_wp2_with fail
  refine (Hc.out _).mono ?_
  rintro e w1 ⟨rfl, g1⟩
  have hbx := box41 (t := ⟨tk, tt, ta⟩) g1
  obtain ⟨x0, x1, x2, lx⟩ := hbx
  simp only [] at x0 x1 x2
  have HG1 := hide (none_trans (only_alloc (only_refl w none) _) g1)
  have HX1 := hide g1
  clear g1
  cases b1 with
  | true =>
    go_wp2_with fail
    go_ret
    exact ⟨ret_bool (a := true) (by rw [HB.out]; rfl), HG1.out⟩
  | false =>
    go_wp2_with fail
    refine (Hr.out _).mono ?_
    rintro e w2 ⟨rfl, g2⟩
    have hbx := box41 (t := ⟨tk, tt, ta⟩) (none_trans HX1.out g2)
    clear x0 x1 x2 lx
    obtain ⟨x0, x1, x2, lx⟩ := hbx
    simp only [] at x0 x1 x2
    have HG2 := hide (none_trans HG1.out g2)
    have HX2 := hide (none_trans HX1.out g2)
    clear g2
    cases b2 with
    | true =>
      go_wp2_with fail
      go_ret
      exact ⟨ret_bool (a := true) (by rw [HB.out]; rfl), HG2.out⟩
    | false =>
      by_cases k3 : tk = 3
      · subst k3
        go_wp2_with fail
        go_ret
        exact ⟨ret_bool (a := true) (by rw [HB.out]; rfl), HG2.out⟩
      · have q3 : ((tk : Int) == 3) = false := by rw [beq_eq_false_iff_ne]; omega
        have Q3 := hide (show (tk == 3) = false by rw [beq_eq_false_iff_ne]; exact k3)
        by_cases k1 : tk = 1
        · subst k1
          by_cases e1 : tt = [33]
          · subst e1
            go_wp2_with fail
            go_ret
            exact ⟨ret_bool (a := true) (by rw [HB.out]; rfl), HG2.out⟩
          · have q1 : (tt == [33]) = false := beq_eq_false_iff_ne.2 e1
            by_cases e2 : tt = [105, 110]
            · subst e2
              go_wp2_with fail
              go_ret
              exact ⟨ret_bool (a := true) (by rw [HB.out]; rfl), HG2.out⟩
            · have q2 : (tt == [105, 110]) = false := beq_eq_false_iff_ne.2 e2
              have HB2 := hide (show B = !b3 by rw [HB.out]; unfold wBang wIn; rw [q1, q2]; simp)
              clear e1 e2
              go_wp2_with fail
              refine (Hs.out _).mono ?_
              rintro e w3 ⟨rfl, g3⟩
              go_wp2_with fail
              go_ret
              exact ⟨ret_bool (a := !b3) (by rw [HB2.out]), none_trans HG2.out g3⟩
        · have q1 : ((tk : Int) != 1) = true := by rw [bne_iff_ne]; omega
          have q1' : ((tk : Int) == 1) = false := by rw [beq_eq_false_iff_ne]; omega
          have Q1 := hide (show (tk == 1) = false by rw [beq_eq_false_iff_ne]; exact k1)
          go_wp2_with fail
          go_ret
          exact ⟨ret_bool (a := false) (by rw [HB.out, Q3.out, Q1.out]; rfl), HG2.out⟩
theorem run_text (x y z : Value) (w : World) : (Instr.field 41 (.agg #[x, y, z]) 1).run Try.prog w = .ok y w := by kernel_rfl
set_option maxHeartbeats 4000000 in
theorem anyw_any (av : Nat → Prop) (base : Nat → Prop) (rb d : Nat) (vn : Value) (ts : List Tok) (ns : List Nd) (w : World) (h : TIs av base w rb vn ts ns d) :
    Calls Try.prog 96 #[.pointer (some ⟨rb, 0, none⟩)] w (TPost vStr av base w rb vn d (anyR ts ns)) := by
  obtain ⟨vt, h⟩ := h
  obtain ⟨t, r, g, off, cap, rfl, rfl, hc, hg, c0, c1, c2⟩ := h.head
  obtain ⟨d0, d1, d2⟩ := h.cells
  have lb := Blk.lt h.blk
  have hib : (0 : Int) < (((t :: r).length : Nat) : Int) := by simp only [List.length_cons]; omega
  have HH := hide h
  have HTX := hide (h.txt t (List.mem_cons_self ..))
  obtain ⟨L, hL⟩ : ∃ L, (t :: r).length = L := ⟨_, rfl⟩
  rw [hL] at d0 hib hc
  clear h hL
  have Hn := hide (fun W (hW : RAt av base W rb (.slice (some ⟨g, off, none⟩) (t :: r).length cap) vn (t :: r) ns d) (hk : t.k ≠ 4) => next_any av base rb d _ vn t r ns W hW hk)
  have Hw := hide (fun W (hW : RAt av base W rb (.slice (some ⟨g, off, none⟩) (t :: r).length cap) vn (t :: r) ns d) => wrong_any av base rb d _ vn t r ns W hW)
  unfold anyR
  simp only []
  unfold TPost vTok tokV at Hn
  by_cases hk : t.k = 1
  · rw [if_pos hk]
    unfold TPost vStr
    simp only []
    obtain ⟨tk, tt, ta⟩ := t
    simp only [] at hk c0 c1 c2 Hn ⊢
    subst hk
    unfold sv at Hn ⊢
    have hfd := run_text
    go_enter Try.func96, Try.ntmps96
    go_wp2_with fail
    refine (Hn.out _ HH.out (by simp)).mono ?_
    rintro e w1 ⟨v, rfl, rfl, hr, hf⟩
    have HR := hide hr
    have HF := hide hf
    clear hr hf
    go_wp2_with fail
    go_ret
    exact ⟨_, rfl, rfl, HR.out, HF.out⟩
  · rw [if_neg hk]
    unfold wrongR TPost
    simp only []
    have q1 : ((t.k : Int) != 1) = true := by rw [bne_iff_ne]; omega
    go_enter Try.func96, Try.ntmps96
    go_wp2_with fail
    refine (Hw.out _ HH.out).mono ?_
    rintro e w1 ⟨rfl, g1⟩
    exact post_panicP rfl ⟨rfl, rb_none g1⟩

end Go.Proofs.Ytgpfjcogaheopaa
