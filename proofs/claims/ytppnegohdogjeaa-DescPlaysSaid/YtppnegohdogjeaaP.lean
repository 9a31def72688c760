/- The walk of DescPlays: whatever the steps, it answers true. Printed by genP9.py. -/
import Derived.Test.YtppnegohdogjeaaR
import Derived.Test.YtppnegohdogjeaaI
import Derived.Test.YtppnegohdogjeaaN
namespace Go.Proofs.Ytppnegohdogjeaa
open Go.RowKit

structure Both (w0 w : World) (bt br lb : Nat) (cs : Array Value) (T1 T2 : List Sl) : Prop where
  t : TabIs w bt 66 T1
  r : TabIs w br 53 T2
  g : w0.grownBy w none
  nt : w0.heap.size ≤ bt
  nr : w0.heap.size ≤ br
  ne : bt ≠ br
  l : Blk w lb 55 cs
  lt : lb ≠ bt
  lr : lb ≠ br
section
variable {w0 w w' : World} {bt br lb : Nat} {cs : Array Value} {T1 T2 T3 : List Sl}
theorem Both.T (h : Both w0 w bt br lb cs T1 T2) {f : FuncId} {args : Array Value} {v : Value} (c : Calls Try.prog f args w (Post w bt 66 T3 v)) : Calls Try.prog f args w fun e w' => e = .returned v ∧ Hid (Both w0 w' bt br lb cs T3 T2) := by
  refine c.mono ?_
  rintro e w' ⟨rfl, ht, hg⟩
  exact ⟨rfl, ht, h.r.gr hg (by simp; exact h.ne.symm), only_new h.g h.nt hg, h.nt, h.nr, h.ne, h.l.grown hg (by simp; exact h.lt), h.lt, h.lr⟩
theorem Both.R (h : Both w0 w bt br lb cs T1 T2) {f : FuncId} {args : Array Value} {v : Value} (c : Calls Try.prog f args w (Post w br 53 T3 v)) : Calls Try.prog f args w fun e w' => e = .returned v ∧ Hid (Both w0 w' bt br lb cs T1 T3) := by
  refine c.mono ?_
  rintro e w' ⟨rfl, ht, hg⟩
  exact ⟨rfl, h.t.gr hg (by simp; exact h.ne), ht, only_new h.g h.nr hg, h.nt, h.nr, h.ne, h.l.grown hg (by simp; exact h.lr), h.lt, h.lr⟩
theorem Both.Rg (h : Both w0 w bt br lb cs T1 T2) {f : FuncId} {args : Array Value} {v : Value} (c : Calls Try.prog f args w (Post w br 53 T3 v)) : Calls Try.prog f args w fun e w' => e = .returned v ∧ Hid (Both w0 w' bt br lb cs T1 T3) ∧ w.grownBy w' (some br) := by
  refine c.mono ?_
  rintro e w' ⟨rfl, ht, hg⟩
  exact ⟨rfl, ⟨h.t.gr hg (by simp; exact h.ne), ht, only_new h.g h.nr hg, h.nt, h.nr, h.ne, h.l.grown hg (by simp; exact h.lr), h.lt, h.lr⟩, hg⟩
theorem Both.gr (h : Both w0 w bt br lb cs T1 T2) (hg : w.grownBy w' none) : Both w0 w' bt br lb cs T1 T2 :=
  ⟨h.t.gr hg (by simp), h.r.gr hg (by simp), only_trans h.g hg, h.nt, h.nr, h.ne, h.l.grown hg (by simp), h.lt, h.lr⟩
theorem Both.start (ht : TabIs w bt 66 T1) (hr : TabIs w br 53 T2) (g : w0.grownBy w none) (nt : w0.heap.size ≤ bt) (nr : w0.heap.size ≤ br) (ne : bt ≠ br) (cs : Array Value) : Both w0 (w.alloc (.cells cs 55)) bt br w.heap.size cs T1 T2 :=
  ⟨ht.alloc _, hr.alloc _, only_alloc g _, nt, nr, ne, Blk.new w 55 cs, by have := ht.lt; omega, by have := hr.lt; omega⟩
theorem Both.lbt (h : Both w0 w bt br lb cs T1 T2) : lb < w.heap.size := Blk.lt h.l
theorem Both.c {a0 a1 a2 a3 a4 a5 a7 : Int} {a6 : Bool} (h : Both w0 w bt br lb #[.int .i64 a0, .int .i64 a1, .int .i64 a2, .int .i64 a3, .int .i64 a4, .int .i64 a5, .bool a6, .int .i64 a7] T1 T2) :
    w.cell? ⟨lb, 0, none⟩ = some (.int .i64 a0) ∧ w.cell? ⟨lb, 1, none⟩ = some (.int .i64 a1) ∧ w.cell? ⟨lb, 2, none⟩ = some (.int .i64 a2) ∧ w.cell? ⟨lb, 3, none⟩ = some (.int .i64 a3) ∧ w.cell? ⟨lb, 4, none⟩ = some (.int .i64 a4) ∧ w.cell? ⟨lb, 5, none⟩ = some (.int .i64 a5) ∧ w.cell? ⟨lb, 6, none⟩ = some (.bool a6) ∧ w.cell? ⟨lb, 7, none⟩ = some (.int .i64 a7) :=
  ⟨h.l.cell 0, h.l.cell 1, h.l.cell 2, h.l.cell 3, h.l.cell 4, h.l.cell 5, h.l.cell 6, h.l.cell 7⟩
end

theorem held_same (b : Nat) (T : List Sl) (n : Int) (w : World) (h : TabIs w b 66 T) : Calls Try.prog 24 #[.pointer (some ⟨b, 0, none⟩), .int .i64 n] w fun e w' => e = .returned (.int .i64 (heldRes T n)) ∧ w' = w :=
  (held_any b T n w h).mono fun _ _ h => ⟨h.1, h.2.symm⟩
theorem rheld_same (b : Nat) (T : List Sl) (n : Int) (w : World) (h : TabIs w b 53 T) : Calls Try.prog 32 #[.pointer (some ⟨b, 0, none⟩), .int .i64 n] w fun e w' => e = .returned (.int .i64 (heldRes T n)) ∧ w' = w :=
  (rheld_any b T n w h).mono fun _ _ h => ⟨h.1, h.2.symm⟩
theorem seekBT {w0 w : World} {bt br lb : Nat} {cs : Array Value} {T1 T2 : List Sl} (h : Hid (Both w0 w bt br lb cs T1 T2)) (n a : Int) :
    Calls Try.prog 27 #[.pointer (some ⟨bt, 0, none⟩), .int .i64 n, .int .i64 a] w fun e w' => e = .returned (.bool (seekRes T1 n a).2) ∧ Hid (Both w0 w' bt br lb cs (seekRes T1 n a).1 T2) := h.out.T (seek_any bt T1 n a w h.out.t)
theorem seekBR {w0 w : World} {bt br lb : Nat} {cs : Array Value} {T1 T2 : List Sl} (h : Hid (Both w0 w bt br lb cs T1 T2)) (n a : Int) :
    Calls Try.prog 28 #[.pointer (some ⟨br, 0, none⟩), .int .i64 n, .int .i64 a] w fun e w' => e = .returned (.bool (seekRes T2 n a).2) ∧ Hid (Both w0 w' bt br lb cs T1 (seekRes T2 n a).1) := h.out.R (rseek_any br T2 n a w h.out.r)
theorem holdBT {w0 w : World} {bt br lb : Nat} {cs : Array Value} {T1 T2 : List Sl} (h : Hid (Both w0 w bt br lb cs T1 T2)) (n : Int) (hb : Hid (heldRes T1 n ≤ 1000000)) :
    Calls Try.prog 22 #[.pointer (some ⟨bt, 0, none⟩), .int .i64 n] w fun e w' => e = .returned (.bool (holdRes T1 n).2) ∧ Hid (Both w0 w' bt br lb cs (holdRes T1 n).1 T2) := h.out.T (hold_any bt T1 n w h.out.t hb.out)
theorem holdBR {w0 w : World} {bt br lb : Nat} {cs : Array Value} {T1 T2 : List Sl} (h : Hid (Both w0 w bt br lb cs T1 T2)) (n : Int) (hb : Hid (heldRes T2 n ≤ 1000000)) :
    Calls Try.prog 29 #[.pointer (some ⟨br, 0, none⟩), .int .i64 n] w fun e w' => e = .returned (.bool (holdRes T2 n).2) ∧ Hid (Both w0 w' bt br lb cs T1 (holdRes T2 n).1) := h.out.R (rhold_any br T2 n w h.out.r hb.out)
def Bd (T : List Sl) (m : Nat) : Prop := ∀ s ∈ T, s.h ≤ m
theorem getD_mem {T : List Sl} {k : Nat} {m : Nat} (h : Bd T m) : (T.getD k sl0).h ≤ m := by
  rw [List.getD_eq_getElem?_getD]
  by_cases hk : k < T.length
  · rw [List.getElem?_eq_getElem hk]
    exact h _ (List.getElem_mem hk)
  · rw [List.getElem?_eq_none (by omega)]
    exact Nat.zero_le m
theorem Bd.held {T : List Sl} {m : Nat} (h : Bd T m) (n : Int) : heldRes T n ≤ m := by
  unfold heldRes
  split
  · exact getD_mem h
  · omega
theorem Bd.set {T : List Sl} {m : Nat} (h : Bd T m) (k : Nat) (s : Sl) (hs : s.h ≤ m + 1) : Bd (T.set k s) (m + 1) := by
  intro x hx
  rcases List.mem_or_eq_of_mem_set hx with h1 | rfl
  · have := h x h1; omega
  · exact hs
theorem Bd.up {T : List Sl} {m : Nat} (h : Bd T m) : Bd T (m + 1) := fun x hx => by have := h x hx; omega
theorem Bd.hold {T : List Sl} {m : Nat} (h : Bd T m) (n : Int) : Bd (holdRes T n).1 (m + 1) := by
  unfold holdRes
  split
  · exact h.set _ _ (by simp only [putH]; exact Nat.succ_le_succ (getD_mem h))
  · exact h.up
theorem Bd.drop {T : List Sl} {m : Nat} (h : Bd T m) (n : Int) : Bd (dropRes T n).1 (m + 1) := by
  unfold dropRes
  split
  · split
    · exact h.set _ _ (by simp only [putH]; exact Nat.le_trans (Nat.sub_le _ _) (Nat.le_succ_of_le (getD_mem h)))
    · exact h.set _ _ (by simp only [putH]; exact Nat.le_trans (Nat.sub_le _ _) (Nat.le_succ_of_le (getD_mem h)))
  · exact h.up
theorem Bd.seek {T : List Sl} {m : Nat} (h : Bd T m) (n a : Int) : Bd (seekRes T n a).1 (m + 1) := by
  unfold seekRes
  split
  · split
    · exact h.up
    · exact h.set _ _ (by simp only [putA]; exact Nat.le_succ_of_le (getD_mem h))
  · exact h.up
theorem Bd.open_ {T : List Sl} {m : Nat} (h : Bd T m) (d : Sl) : Bd (openRes T d).1 (m + 1) := by
  unfold openRes
  split
  · exact h.up
  · split
    · exact h.set _ _ (by simp [putH])
    · exact h.up
theorem getRes_form (T : List Sl) (n : Int) : ∃ (D : Sl) (ok : Bool), getRes T n = (D.desc, ok) := by
  unfold getRes
  split
  · exact ⟨_, _, rfl⟩
  · exact ⟨sl0, _, rfl⟩
theorem dropRes_form (T : List Sl) (n : Int) : ∃ (T' : List Sl) (D : Sl) (ok : Bool), dropRes T n = (T', D.desc, ok) := by
  unfold dropRes
  split
  · split
    · exact ⟨_, sl0, _, rfl⟩
    · exact ⟨_, _, _, rfl⟩
  · exact ⟨_, sl0, _, rfl⟩

set_option maxRecDepth 100000 in
set_option maxHeartbeats 8000000 in
theorem plays_any (a : Option Addr) (len cap : Nat) (hlen : len ≤ 9223372036854775807) (w : World) (ha : OpsIn w a len) :
    Calls Try.prog 6 #[.slice a len cap] w fun e w' => e = .returned (.bool true) ∧ Below w.heap.size w w' := by
  have Ha := hide ha
  clear ha
  go_enter Try.func6, Try.ntmps6
  go_wp2_with fail
  go_at_call 8
  refine (shown_any w).mono ?_
  rintro e w1 ⟨rfl, hg⟩
  have G1 := hide hg
  clear hg
  go_wp2_with fail
  go_at_call 20
  refine (new_any w1).mono ?_
  rintro e w2 ⟨rfl, h, hg, -⟩
  have H2 := hide h
  have G2 := hide (only_trans G1.out hg)
  have N2 := hide (show w1.heap.size < w2.heap.size from h.lt)
  have N1 := hide (show w.heap.size ≤ w1.heap.size from G1.out.size)
  clear h hg G1
  go_wp2_with (first
    | (refine wpList_val (o := ⟨some 23, _, _, _, _, _⟩) (.agg zarr) w2 rfl (by kernel_rfl) ?_)
    | (refine wpList_val (o := ⟨some 24, _, _, _, _, _⟩) (.pointer (some ⟨w2.heap.size, 0, none⟩)) (w2.alloc (.cells zarr 53)) rfl (by rfl) ?_))
  have R0 := hide (show TabIs (w2.alloc (.cells zarr 53)) w1.heap.size 66 (List.replicate 60 sl0) ∧ TabIs (w2.alloc (.cells zarr 53)) w2.heap.size 53 (List.replicate 60 sl0) ∧ w.grownBy (w2.alloc (.cells zarr 53)) none from
    ⟨H2.out.alloc _, ⟨Blk.new w2 53 _, by simp⟩, only_alloc G2.out _⟩)
  have NT := hide (show w.heap.size ≤ w1.heap.size ∧ w.heap.size ≤ w2.heap.size ∧ w1.heap.size ≠ w2.heap.size from ⟨N1.out, by have := N1.out; have := N2.out; omega, by have := N2.out; omega⟩)
  clear H2 G2 N1 N2
  generalize w2.alloc (.cells zarr 53) = w3 at R0 ⊢
  generalize w1.heap.size = bt at R0 NT ⊢
  generalize w2.heap.size = br at R0 NT ⊢
  go_loopw [6] (fun v wr => ∃ (k : Nat) (T : List Sl), v = .int .i64 k ∧ k ≤ 200 ∧ Bd T k ∧ TabIs wr bt 66 T ∧ TabIs wr br 53 T ∧ w.grownBy wr none) (fun v _ => 200 - (intOf v).toNat)
  case atStart => exact ⟨0, List.replicate 60 sl0, rfl, by omega, fun s hs => by rw [List.eq_of_mem_replicate hs]; decide, R0.out⟩
  case round =>
    obtain ⟨k, T, rfl, hk, hBd, hT, hR, hG⟩ := hrel
    clear R0
    by_cases hlt : k < len ∧ k < 200
    · obtain ⟨hlt, hlt2⟩ := hlt
      obtain ⟨b, off, x0, x1, x2, x3, x4, x5, x6, x7, rfl, hb, -, -, -, -, -, -, -, c0, c1, c2, c3, c4, c5, c6, c7⟩ := Ha.out k hlt
      have d0 := none_cell hG hb c0
      have d1 := none_cell hG hb c1
      have d2 := none_cell hG hb c2
      have d3 := none_cell hG hb c3
      have d4 := none_cell hG hb c4
      have d5 := none_cell hG hb c5
      have d6 := none_cell hG hb c6
      have d7 := none_cell hG hb c7
      have q1 : decide ((k : Int) < len) = true := by simp; omega
      have q3 : decide ((k : Int) < 200) = true := by simp; omega
      obtain ⟨n1, n2, n3⟩ := NT.out
      have hB := Both.start hT hR hG n1 n2 n3 #[.int .i64 x0, .int .i64 x1, .int .i64 x2, .int .i64 x3, .int .i64 x4, .int .i64 x5, .bool x6, .int .i64 x7]
      have HB := hide hB
      have HBd := hide hBd
      clear hT hR hG hBd n1 n2 n3 c0 c1 c2 c3 c4 c5 c6 c7 hB
      have hq : ((x0 == 1) = true) ∨ ((x0 == 1) = false ∧ (x0 == 2) = true) ∨ ((x0 == 1) = false ∧ (x0 == 2) = false ∧ (x0 == 3) = true) ∨ ((x0 == 1) = false ∧ (x0 == 2) = false ∧ (x0 == 3) = false ∧ (x0 == 4) = true) ∨
          ((x0 == 1) = false ∧ (x0 == 2) = false ∧ (x0 == 3) = false ∧ (x0 == 4) = false) := by
        simp only [beq_iff_eq, beq_eq_false_iff_ne, ne_eq]
        omega
      rcases hq with q4 | ⟨q4, q5⟩ | ⟨q4, q5, q6⟩ | ⟨q4, q5, q6, q7⟩ | ⟨q4, q5, q6, q7⟩
      · obtain ⟨⟨T', y, z⟩, hE⟩ : ∃ r, openRes T ⟨x3, x4, x5, x6, x7, 0⟩ = r := ⟨_, rfl⟩
        have HBd2 := hide (show Bd T' (k + 1) by have := HBd.out.open_ ⟨x3, x4, x5, x6, x7, 0⟩; rw [hE] at this; exact this)
        have HE := hide hE
        clear hE
        go_wp2_with fail
        try clear d0 d1 d2 d3 d4 d5 d6 d7
        go_at_call 21
        refine (HB.out.T (open_any bt T ⟨x3, x4, x5, x6, x7, 0⟩ _ HB.out.t)).mono ?_
        rw [HE.out]
        rintro e w4 ⟨rfl, HB1⟩
        obtain ⟨b0, b1, b2, b3, b4, b5, b6, b7⟩ := HB1.out.c
        go_wp2_with fail
        go_at_call 26
        refine (HB1.out.R (ropen_any br T ⟨x3, x4, x5, x6, x7, 0⟩ _ HB1.out.r)).mono ?_
        rw [HE.out]
        rintro e w5 ⟨rfl, HB2⟩
        clear b0 b1 b2 b3 b4 b5 b6 b7
        obtain ⟨b0, b1, b2, b3, b4, b5, b6, b7⟩ := HB2.out.c
        obtain ⟨D, okD, hD⟩ := getRes_form T' x1
        have HD := hide hD
        clear hD
        go_wp2_with fail
        try clear d0 d1 d2 d3 d4 d5 d6 d7
        go_at_call 25
        refine (get_any bt T' x1 _ HB2.out.t).mono ?_
        unfold GetPost
        rw [HD.out]
        rintro e w7 ⟨rfl, hg⟩
        have HB3 := hide ((HB2.out.gr hg).gr (only_alloc (only_refl w7 none) (.cells #[.int .i64 D.o, .int .i64 D.t, .int .i64 D.w, .bool D.e, .int .i64 D.a] 41)))
        clear b0 b1 b2 b3 b4 b5 b6 b7
        obtain ⟨b0, b1, b2, b3, b4, b5, b6, b7⟩ := (HB2.out.gr hg).c
        have hl7 : wr.heap.size < w7.heap.size := (HB2.out.gr hg).lbt
        clear hg HB2
        unfold Sl.desc
        go_wp2_with fail
        go_at_call 31
        refine (rget_any br T' x1 _ HB3.out.r).mono ?_
        unfold GetPost
        rw [HD.out]
        rintro e w8 ⟨rfl, hg⟩
        have HB4 := hide ((HB3.out.gr hg).gr (only_alloc (only_refl w8 none) (.cells #[.int .i64 D.o, .int .i64 D.t, .int .i64 D.w, .bool D.e, .int .i64 D.a] 41)))
        clear b0 b1 b2 b3 b4 b5 b6 b7
        obtain ⟨b0, b1, b2, b3, b4, b5, b6, b7⟩ := (HB3.out.gr hg).c
        have hl8 : wr.heap.size < w8.heap.size := (HB3.out.gr hg).lbt
        obtain ⟨⟨p0, p1, p2, p3, p4⟩, -⟩ := ((Blk.new w7 41 #[.int .i64 D.o, .int .i64 D.t, .int .i64 D.w, .bool D.e, .int .i64 D.a]).grown hg (by simp)).c5
        have hlt8 : w7.heap.size < w8.heap.size := by have := hg.size; rw [World.size_alloc] at this; omega
        clear hg HB3
        unfold Sl.desc
        go_wp2_with fail
        go_quiet ((first
          | (go_at_call 24; exact Calls.quiet_of_same (held_same bt T' x1 _ (HB4.out.t.gr (only_drewN (only_refl _ none) _) (by simp))))
          | (go_at_call 32; exact Calls.quiet_of_same (rheld_same br T' x1 _ (HB4.out.r.gr (only_drewN (only_refl _ none) _) (by simp))))))
        rename_i nq
        go_wp2
        go_roundw
        case rel => exact ⟨k + 1, T', by go_num, by omega, HBd2.out, HB4.out.t.gr (only_drewN (only_refl _ none) _) (by simp), HB4.out.r.gr (only_drewN (only_refl _ none) _) (by simp), only_drewN HB4.out.g _⟩
        case measure => simp [intOf]; omega
      · obtain ⟨⟨T', y⟩, hE⟩ : ∃ r, seekRes T x1 x2 = r := ⟨_, rfl⟩
        have HBd2 := hide (show Bd T' (k + 1) by have := HBd.out.seek x1 x2; rw [hE] at this; exact this)
        have HE := hide hE
        clear hE
        have HBD := hide (HB.out.gr (only_drew (only_refl _ none)))
        obtain ⟨b0, b1, b2, b3, b4, b5, b6, b7⟩ := HBD.out.c
        go_wp2_with fail
        clear d0 d1 d2 d3 d4 d5 d6 d7 HB
        go_region_held3 (fun w' => w'.cell? ⟨wr.heap.size, 1, none⟩ = some (.int .i64 x1) ∧ w'.cell? ⟨wr.heap.size, 2, none⟩ = some (.int .i64 x2)) (first | go_keep | exact ⟨HB1.out.l.cell 1, HB1.out.l.cell 2⟩ | exact ⟨HB2.out.l.cell 1, HB2.out.l.cell 2⟩)
          (first
            | (go_at_call 27; refine (seekBT (by assumption) x1 x2).mono ?_; rw [HE.out]; rintro e w4 ⟨rfl, HB1⟩)
            | (go_at_call 28; refine (seekBR (by assumption) x1 x2).mono ?_; rw [HE.out]; rintro e w5 ⟨rfl, HB2⟩))
        clear b0 b1 b2 b3 b4 b5 b6 b7
        all_goals
          first
          | have HB9 := (HB2 : Hid (Both w w5 bt br wr.heap.size _ T' T'))
          | have HB9 := (HB1 : Hid (Both w w4 bt br wr.heap.size _ T' T'))
          clear HB1 HB2
          have HB2 := HB9
          clear HB9
          obtain ⟨b0, b1, b2, b3, b4, b5, b6, b7⟩ := HB2.out.c
          obtain ⟨D, okD, hD⟩ := getRes_form T' x1
          have HD := hide hD
          clear hD
          go_wp2_with fail
          try clear d0 d1 d2 d3 d4 d5 d6 d7
          go_at_call 25
          refine (get_any bt T' x1 _ HB2.out.t).mono ?_
          unfold GetPost
          rw [HD.out]
          rintro e w7 ⟨rfl, hg⟩
          have HB3 := hide ((HB2.out.gr hg).gr (only_alloc (only_refl w7 none) (.cells #[.int .i64 D.o, .int .i64 D.t, .int .i64 D.w, .bool D.e, .int .i64 D.a] 41)))
          clear b0 b1 b2 b3 b4 b5 b6 b7
          obtain ⟨b0, b1, b2, b3, b4, b5, b6, b7⟩ := (HB2.out.gr hg).c
          have hl7 : wr.heap.size < w7.heap.size := (HB2.out.gr hg).lbt
          clear hg HB2
          unfold Sl.desc
          go_wp2_with fail
          go_at_call 31
          refine (rget_any br T' x1 _ HB3.out.r).mono ?_
          unfold GetPost
          rw [HD.out]
          rintro e w8 ⟨rfl, hg⟩
          have HB4 := hide ((HB3.out.gr hg).gr (only_alloc (only_refl w8 none) (.cells #[.int .i64 D.o, .int .i64 D.t, .int .i64 D.w, .bool D.e, .int .i64 D.a] 41)))
          clear b0 b1 b2 b3 b4 b5 b6 b7
          obtain ⟨b0, b1, b2, b3, b4, b5, b6, b7⟩ := (HB3.out.gr hg).c
          have hl8 : wr.heap.size < w8.heap.size := (HB3.out.gr hg).lbt
          obtain ⟨⟨p0, p1, p2, p3, p4⟩, -⟩ := ((Blk.new w7 41 #[.int .i64 D.o, .int .i64 D.t, .int .i64 D.w, .bool D.e, .int .i64 D.a]).grown hg (by simp)).c5
          have hlt8 : w7.heap.size < w8.heap.size := by have := hg.size; rw [World.size_alloc] at this; omega
          clear hg HB3
          unfold Sl.desc
          go_wp2_with fail
          go_quiet ((first
            | (go_at_call 24; exact Calls.quiet_of_same (held_same bt T' x1 _ (HB4.out.t.gr (only_drewN (only_refl _ none) _) (by simp))))
            | (go_at_call 32; exact Calls.quiet_of_same (rheld_same br T' x1 _ (HB4.out.r.gr (only_drewN (only_refl _ none) _) (by simp))))))
          rename_i nq
          go_wp2
          go_roundw
          case rel => exact ⟨k + 1, T', by go_num, by omega, HBd2.out, HB4.out.t.gr (only_drewN (only_refl _ none) _) (by simp), HB4.out.r.gr (only_drewN (only_refl _ none) _) (by simp), only_drewN HB4.out.g _⟩
          case measure => simp [intOf]; omega
      · obtain ⟨⟨T', y⟩, hE⟩ : ∃ r, holdRes T x1 = r := ⟨_, rfl⟩
        have HBd2 := hide (show Bd T' (k + 1) by have := HBd.out.hold x1; rw [hE] at this; exact this)
        have HHb := hide (show heldRes T x1 ≤ 1000000 by have := HBd.out.held x1; omega)
        have HE := hide hE
        clear hE
        have HBD := hide (HB.out.gr (only_drew (only_refl _ none)))
        obtain ⟨b0, b1, b2, b3, b4, b5, b6, b7⟩ := HBD.out.c
        go_wp2_with fail
        clear d0 d1 d2 d3 d4 d5 d6 d7 HB
        go_region_held3 (fun w' => w'.cell? ⟨wr.heap.size, 1, none⟩ = some (.int .i64 x1)) (first | go_keep | exact HB1.out.l.cell 1 | exact HB2.out.l.cell 1)
          (first
            | (go_at_call 22; refine (holdBT (by assumption) x1 (by assumption)).mono ?_; rw [HE.out]; rintro e w4 ⟨rfl, HB1⟩)
            | (go_at_call 29; refine (holdBR (by assumption) x1 (by assumption)).mono ?_; rw [HE.out]; rintro e w5 ⟨rfl, HB2⟩))
        clear b0 b1 b2 b3 b4 b5 b6 b7
        all_goals
          first
          | have HB9 := (HB2 : Hid (Both w w5 bt br wr.heap.size _ T' T'))
          | have HB9 := (HB1 : Hid (Both w w4 bt br wr.heap.size _ T' T'))
          clear HB1 HB2
          have HB2 := HB9
          clear HB9
          obtain ⟨b0, b1, b2, b3, b4, b5, b6, b7⟩ := HB2.out.c
          obtain ⟨D, okD, hD⟩ := getRes_form T' x1
          have HD := hide hD
          clear hD
          go_wp2_with fail
          try clear d0 d1 d2 d3 d4 d5 d6 d7
          go_at_call 25
          refine (get_any bt T' x1 _ HB2.out.t).mono ?_
          unfold GetPost
          rw [HD.out]
          rintro e w7 ⟨rfl, hg⟩
          have HB3 := hide ((HB2.out.gr hg).gr (only_alloc (only_refl w7 none) (.cells #[.int .i64 D.o, .int .i64 D.t, .int .i64 D.w, .bool D.e, .int .i64 D.a] 41)))
          clear b0 b1 b2 b3 b4 b5 b6 b7
          obtain ⟨b0, b1, b2, b3, b4, b5, b6, b7⟩ := (HB2.out.gr hg).c
          have hl7 : wr.heap.size < w7.heap.size := (HB2.out.gr hg).lbt
          clear hg HB2
          unfold Sl.desc
          go_wp2_with fail
          go_at_call 31
          refine (rget_any br T' x1 _ HB3.out.r).mono ?_
          unfold GetPost
          rw [HD.out]
          rintro e w8 ⟨rfl, hg⟩
          have HB4 := hide ((HB3.out.gr hg).gr (only_alloc (only_refl w8 none) (.cells #[.int .i64 D.o, .int .i64 D.t, .int .i64 D.w, .bool D.e, .int .i64 D.a] 41)))
          clear b0 b1 b2 b3 b4 b5 b6 b7
          obtain ⟨b0, b1, b2, b3, b4, b5, b6, b7⟩ := (HB3.out.gr hg).c
          have hl8 : wr.heap.size < w8.heap.size := (HB3.out.gr hg).lbt
          obtain ⟨⟨p0, p1, p2, p3, p4⟩, -⟩ := ((Blk.new w7 41 #[.int .i64 D.o, .int .i64 D.t, .int .i64 D.w, .bool D.e, .int .i64 D.a]).grown hg (by simp)).c5
          have hlt8 : w7.heap.size < w8.heap.size := by have := hg.size; rw [World.size_alloc] at this; omega
          clear hg HB3
          unfold Sl.desc
          go_wp2_with fail
          go_quiet ((first
            | (go_at_call 24; exact Calls.quiet_of_same (held_same bt T' x1 _ (HB4.out.t.gr (only_drewN (only_refl _ none) _) (by simp))))
            | (go_at_call 32; exact Calls.quiet_of_same (rheld_same br T' x1 _ (HB4.out.r.gr (only_drewN (only_refl _ none) _) (by simp))))))
          rename_i nq
          go_wp2
          go_roundw
          case rel => exact ⟨k + 1, T', by go_num, by omega, HBd2.out, HB4.out.t.gr (only_drewN (only_refl _ none) _) (by simp), HB4.out.r.gr (only_drewN (only_refl _ none) _) (by simp), only_drewN HB4.out.g _⟩
          case measure => simp [intOf]; omega
      · obtain ⟨T', E, y, hE⟩ := dropRes_form T x1
        have HBd2 := hide (show Bd T' (k + 1) by have := HBd.out.drop x1; rw [hE] at this; exact this)
        have HHb := hide (show heldRes T x1 ≤ 1000000 by have := HBd.out.held x1; omega)
        have HE := hide hE
        clear hE
        go_wp2_with fail
        try clear d0 d1 d2 d3 d4 d5 d6 d7
        go_at_call 23
        refine (HB.out.T (drop_any bt T x1 _ HB.out.t HHb.out)).mono ?_
        rw [HE.out]
        rintro e w4 ⟨rfl, HB0⟩
        have HB1 := hide (HB0.out.gr (only_alloc (only_refl w4 none) (.cells #[.int .i64 E.o, .int .i64 E.t, .int .i64 E.w, .bool E.e, .int .i64 E.a] 41)))
        obtain ⟨b0, b1, b2, b3, b4, b5, b6, b7⟩ := HB0.out.c
        have hl4 : wr.heap.size < w4.heap.size := HB0.out.lbt
        unfold Sl.desc
        go_wp2_with fail
        go_at_call 30
        refine (Both.Rg HB1.out (rdrop_any br T x1 _ HB1.out.r HHb.out)).mono ?_
        rw [HE.out]
        rintro e w5 ⟨rfl, HB3, hg5⟩
        clear b0 b1 b2 b3 b4 b5 b6 b7
        obtain ⟨b0, b1, b2, b3, b4, b5, b6, b7⟩ := HB3.out.c
        have hl5 : wr.heap.size < w5.heap.size := HB3.out.lbt
        have hbr4 : br < w4.heap.size := HB0.out.r.lt
        have hne4 : w4.heap.size ≠ br := by omega
        obtain ⟨⟨p0, p1, p2, p3, p4⟩, -⟩ := ((Blk.new w4 41 #[.int .i64 E.o, .int .i64 E.t, .int .i64 E.w, .bool E.e, .int .i64 E.a]).grown hg5 (by simp; exact hne4)).c5
        have hlt5 : w4.heap.size < w5.heap.size := by have := hg5.size; rw [World.size_alloc] at this; omega
        have HB2 := hide (HB3.out.gr (only_alloc (only_refl w5 none) (.cells #[.int .i64 E.o, .int .i64 E.t, .int .i64 E.w, .bool E.e, .int .i64 E.a] 41)))
        clear HB0 HB1 HB3 hg5 HB
        unfold Sl.desc
        obtain ⟨D, okD, hD⟩ := getRes_form T' x1
        have HD := hide hD
        clear hD
        go_wp2_with fail
        clear p0 p1 p2 p3 p4
        try clear d0 d1 d2 d3 d4 d5 d6 d7
        go_at_call 25
        refine (get_any bt T' x1 _ HB2.out.t).mono ?_
        unfold GetPost
        rw [HD.out]
        rintro e w7 ⟨rfl, hg⟩
        have HB3 := hide ((HB2.out.gr hg).gr (only_alloc (only_refl w7 none) (.cells #[.int .i64 D.o, .int .i64 D.t, .int .i64 D.w, .bool D.e, .int .i64 D.a] 41)))
        clear b0 b1 b2 b3 b4 b5 b6 b7
        obtain ⟨b0, b1, b2, b3, b4, b5, b6, b7⟩ := (HB2.out.gr hg).c
        have hl7 : wr.heap.size < w7.heap.size := (HB2.out.gr hg).lbt
        clear hg HB2
        unfold Sl.desc
        go_wp2_with fail
        go_at_call 31
        refine (rget_any br T' x1 _ HB3.out.r).mono ?_
        unfold GetPost
        rw [HD.out]
        rintro e w8 ⟨rfl, hg⟩
        have HB4 := hide ((HB3.out.gr hg).gr (only_alloc (only_refl w8 none) (.cells #[.int .i64 D.o, .int .i64 D.t, .int .i64 D.w, .bool D.e, .int .i64 D.a] 41)))
        clear b0 b1 b2 b3 b4 b5 b6 b7
        obtain ⟨b0, b1, b2, b3, b4, b5, b6, b7⟩ := (HB3.out.gr hg).c
        have hl8 : wr.heap.size < w8.heap.size := (HB3.out.gr hg).lbt
        obtain ⟨⟨p0, p1, p2, p3, p4⟩, -⟩ := ((Blk.new w7 41 #[.int .i64 D.o, .int .i64 D.t, .int .i64 D.w, .bool D.e, .int .i64 D.a]).grown hg (by simp)).c5
        have hlt8 : w7.heap.size < w8.heap.size := by have := hg.size; rw [World.size_alloc] at this; omega
        clear hg HB3
        unfold Sl.desc
        go_wp2_with fail
        go_quiet ((first
          | (go_at_call 24; exact Calls.quiet_of_same (held_same bt T' x1 _ (HB4.out.t.gr (only_drewN (only_refl _ none) _) (by simp))))
          | (go_at_call 32; exact Calls.quiet_of_same (rheld_same br T' x1 _ (HB4.out.r.gr (only_drewN (only_refl _ none) _) (by simp))))))
        rename_i nq
        go_wp2
        go_roundw
        case rel => exact ⟨k + 1, T', by go_num, by omega, HBd2.out, HB4.out.t.gr (only_drewN (only_refl _ none) _) (by simp), HB4.out.r.gr (only_drewN (only_refl _ none) _) (by simp), only_drewN HB4.out.g _⟩
        case measure => simp [intOf]; omega
      · have HB2 := HB
        obtain ⟨T', hT'⟩ : ∃ T', T' = T := ⟨_, rfl⟩
        have HBd2 := hide (show Bd T' (k + 1) by rw [hT']; exact HBd.out.up)
        rw [← hT'] at HB2
        clear hT'
        obtain ⟨D, okD, hD⟩ := getRes_form T' x1
        have HD := hide hD
        clear hD
        go_wp2_with fail
        try clear d0 d1 d2 d3 d4 d5 d6 d7
        go_at_call 25
        refine (get_any bt T' x1 _ HB2.out.t).mono ?_
        unfold GetPost
        rw [HD.out]
        rintro e w7 ⟨rfl, hg⟩
        have HB3 := hide ((HB2.out.gr hg).gr (only_alloc (only_refl w7 none) (.cells #[.int .i64 D.o, .int .i64 D.t, .int .i64 D.w, .bool D.e, .int .i64 D.a] 41)))
        obtain ⟨b0, b1, b2, b3, b4, b5, b6, b7⟩ := (HB2.out.gr hg).c
        have hl7 : wr.heap.size < w7.heap.size := (HB2.out.gr hg).lbt
        clear hg HB2
        unfold Sl.desc
        go_wp2_with fail
        go_at_call 31
        refine (rget_any br T' x1 _ HB3.out.r).mono ?_
        unfold GetPost
        rw [HD.out]
        rintro e w8 ⟨rfl, hg⟩
        have HB4 := hide ((HB3.out.gr hg).gr (only_alloc (only_refl w8 none) (.cells #[.int .i64 D.o, .int .i64 D.t, .int .i64 D.w, .bool D.e, .int .i64 D.a] 41)))
        clear b0 b1 b2 b3 b4 b5 b6 b7
        obtain ⟨b0, b1, b2, b3, b4, b5, b6, b7⟩ := (HB3.out.gr hg).c
        have hl8 : wr.heap.size < w8.heap.size := (HB3.out.gr hg).lbt
        obtain ⟨⟨p0, p1, p2, p3, p4⟩, -⟩ := ((Blk.new w7 41 #[.int .i64 D.o, .int .i64 D.t, .int .i64 D.w, .bool D.e, .int .i64 D.a]).grown hg (by simp)).c5
        have hlt8 : w7.heap.size < w8.heap.size := by have := hg.size; rw [World.size_alloc] at this; omega
        clear hg HB3
        unfold Sl.desc
        go_wp2_with fail
        go_quiet ((first
          | (go_at_call 24; exact Calls.quiet_of_same (held_same bt T' x1 _ (HB4.out.t.gr (only_drewN (only_refl _ none) _) (by simp))))
          | (go_at_call 32; exact Calls.quiet_of_same (rheld_same br T' x1 _ (HB4.out.r.gr (only_drewN (only_refl _ none) _) (by simp))))))
        rename_i nq
        go_wp2
        go_roundw
        case rel => exact ⟨k + 1, T', by go_num, by omega, HBd2.out, HB4.out.t.gr (only_drewN (only_refl _ none) _) (by simp), HB4.out.r.gr (only_drewN (only_refl _ none) _) (by simp), only_drewN HB4.out.g _⟩
        case measure => simp [intOf]; omega
    · by_cases hlt2 : k < len
      all_goals
        go_wp2
        go_ret
        exact ⟨rfl, below_of_none hG⟩

end Go.Proofs.Ytppnegohdogjeaa
