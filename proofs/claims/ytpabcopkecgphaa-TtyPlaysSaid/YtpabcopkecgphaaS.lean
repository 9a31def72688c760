/- The reference's terminal: Read. -/
import Derived.Test.YtpabcopkecgphaaR
import Derived.Test.YtpabcopkecgphaaPerm
namespace Go.Proofs.Ytpabcopkecgphaa
open Go.RowKit

set_option maxHeartbeats 400000 in
theorem rread_neg {b : Nat} {S : Nat → Prop} {st : TS} {w : World} (h : RefIs w b S st) (n : Int) (hn : n < 1) :
    Calls Try.prog 28 #[.pointer (some ⟨b, 0, none⟩), .int .i64 n] w fun e w' => e = .returned (.tuple #[.string ⟨#[]⟩, .bool false]) ∧ w' = w := by
  obtain ⟨a, cap, c0, c1, c2, c3⟩ := h.cells
  clear h
  have hb : decide (n < 1) = true := by simpa using hn
  go_enter Try.func28, Try.ntmps28
  go_wp2
  go_ret2
  exact ⟨rfl, rfl⟩

set_option maxHeartbeats 400000 in
theorem rread_none {b : Nat} {S : Nat → Prop} {st : TS} {w : World} (h : RefIs w b S st) (n : Int) (hn : 1 ≤ n) (hl : st.lines = []) :
    Calls Try.prog 28 #[.pointer (some ⟨b, 0, none⟩), .int .i64 n] w fun e w' => e = .returned (.tuple #[.string ⟨#[]⟩, .bool false]) ∧ w' = w := by
  obtain ⟨a, cap, c0, c1, c2, c3⟩ := h.cells
  rw [hl] at c0
  simp only [List.length_nil] at c0
  clear h
  go_enter Try.func28, Try.ntmps28
  go_wp2
  go_ret2
  exact ⟨rfl, rfl⟩

/-- What the first line's cells are, and the rest as a source. -/
theorem RefIs.head {w : World} {b : Nat} {S : Nat → Prop} {st : TS} (h : RefIs w b S st) (x : List UInt8) (r : List (List UInt8)) (hl : st.lines = x :: r) :
    ∃ g off cap, w.cell? ⟨b, 0, none⟩ = some (.slice (some ⟨g, off, none⟩) (r.length + 1) cap) ∧ r.length + 1 ≤ cap ∧ cap ≤ 9223372036854775807 ∧ w.cell? ⟨g, off, none⟩ = some (.string ⟨x.toArray⟩) ∧ w.cell? ⟨g, off + 1, none⟩ = some (.bool x.isEmpty) ∧
      ∀ W : World, Chg nobody w W → Src Try.prog 2 44 (.slice (if cap = 1 then some ⟨g, off, none⟩ else some ⟨g, off + 2, none⟩) r.length (cap - 1)) r.length (rcells r) W := by
  obtain ⟨lv, h, rfl⟩ := h
  have ho := h.own
  rw [hl] at ho
  obtain ⟨g, off, cap, rfl, h1, h2, _, hc⟩ := ho.some_ (by simp)
  refine ⟨g, off, cap, h.blk.cell 0, h1, h2, (hc 0 (by simp)).trans rfl, (hc 1 (by simp; omega)).trans rfl, fun W hW => ?_⟩
  have hoW := ho.chg hW (fun _ _ e => e)
  simp only [List.length_cons] at h1
  by_cases h3 : cap = 1
  · have hr : r = [] := List.eq_nil_of_length_eq_zero (by omega)
    subst hr
    rw [if_pos h3, h3]
    exact hoW.empty.src (tx := 44) (e' := 60) (by kernel_rfl) (rcells_one [])
  · rw [if_neg h3]
    have := hoW.from_ 1 (by simp)
    rw [rcells_drop] at this
    exact Own.src this (tx := 44) (e' := 60) (by kernel_rfl) (rcells_one r)

/-- Other lines, in a row that is new, or in the old one. -/
theorem RefIs.turn {w w2 : World} {b : Nat} {S : Nat → Prop} {st : TS} (h : RefIs w b S st) (T : Nat → Prop) (hc : Chg T w w2) (hT : ∀ k, T k → k < w.heap.size → S k ∧ k ≠ b) {v' : Value} {ls : List (List UInt8)} (ho : Own w2 60 2 v' ls.length (rcells ls) 0)
    (hn : ∀ k, v'.ownBlock = some k → (S k ∧ k ≠ b) ∨ w.heap.size ≤ k) :
    w2.cell? ⟨b, 0, none⟩ = w.cell? ⟨b, 0, none⟩ ∧ w2.frozen? ⟨b, 0, none⟩ = false ∧ RefTo w (w2.setCell ⟨b, 0, none⟩ v') b S { st with lines := ls } := by
  obtain ⟨lv, h, rfl⟩ := h
  have hbT : ¬ T b := fun e => (hT b e h.blk.lt).2 rfl
  have hb2 := h.blk.chg hc hbT
  have hne : v'.ownBlock ≠ some b := fun e => by
    rcases hn b e with h1 | h1
    · exact h1.2 rfl
    · have := h.blk.lt; omega
  refine ⟨(hb2.cell 0).trans (h.blk.cell 0).symm, hb2.frozen 0, RefTo.mk ⟨hb2.set_ 0 v', ho.far hne _, hne⟩ ?_ ?_⟩
  · refine Chg.setCell (hc.mono fun i hi ht => (hT i ht hi).1) (p := ⟨b, 0, none⟩) (.inl (.inl rfl)) v'
  · intro k hk
    rcases hn k hk with ⟨h1, h2⟩ | h1
    · rcases h1 with h1 | h1
      · exact absurd h1 h2
      · exact .inl h1
    · exact .inr h1

set_option maxHeartbeats 1000000 in
theorem rread_all {b : Nat} {S : Nat → Prop} {st : TS} {w : World} (h : RefIs w b S st) (n : Int) (hn : 1 ≤ n) (x : List UInt8) (r : List (List UInt8)) (hl : st.lines = x :: r) (hx : (x.length : Int) ≤ n) (hw : waitOf st.lines ≤ 4096) :
    Calls Try.prog 28 #[.pointer (some ⟨b, 0, none⟩), .int .i64 n] w fun e w' => e = .returned (.tuple #[.string ⟨x.toArray⟩, .bool true]) ∧ RefTo w w' b S { st with lines := r } := by
  obtain ⟨g, off, cap, c0, hc1, hc2, x0, x1, hsrc⟩ := h.head x r hl
  obtain ⟨a', cap', c0', c1, c2, c3⟩ := h.cells
  obtain ⟨z0, z1, z2, z3⟩ := h.free
  have hll := len_le_wait st.lines
  have hrl : r.length ≤ 4096 := by rw [hl] at hll; simp only [List.length_cons] at hll; rw [hl] at hw; omega
  have hxs : (ByteArray.mk x.toArray).size = x.length := arr_size x
  have e0 : ((r.length : Int) + 1 == 0) = false := by simp; omega
  have e1 : decide (n < 1) = false := by simpa using hn
  have e2 : decide ((x.length : Int) ≤ n) = true := by simpa using hx
  have hblt : b < w.heap.size := by obtain ⟨lv, h, _⟩ := h; exact h.blk.lt
  have Hsrc := hide (hsrc ((w.alloc (.cells #[.string ⟨x.toArray⟩, .bool x.isEmpty] 60)).alloc (.cells #[] 60)) (((Chg.refl nobody w).alloc _).alloc _))
  have H := hide h
  have Hxs := hide hxs
  clear h hsrc hl c0' hll hxs hw
  by_cases h3 : cap = 1
  · subst h3
    rw [if_pos rfl] at Hsrc
    have hr0 : r.length = 0 := by omega
    have hr1 : r = [] := List.eq_nil_of_length_eq_zero hr0
    subst hr1
    go_enter Try.func28, Try.ntmps28
    go_wp2_with (at_builtin; refine wpList_appAt 60 (.agg #[.string .empty, .bool false]) 2 24 (by kernel_rfl) info60 rfl (.slice (some ⟨w.heap.size + 1, 0, none⟩) 0 0) 0 [] 0 _ 0 (rcells []) rfl rfl (by have := Own.made (w.alloc (.cells #[.string ⟨x.toArray⟩, .bool x.isEmpty] 60)) #[] 60 2 0 0 rfl (by decide); rw [World.size_alloc] at this; exact this) (by omega) Hsrc.out (by unfold maxLen; omega) (by omega) ?_)
    intro v' w2 ho hc hn he
    subst he
    have hcc : Chg nobody w w2 := (((Chg.refl nobody w).alloc _).alloc _).trans hc (fun i hi e => by simp [Value.ownBlock] at e; omega)
    have hxb : w2.cell? ⟨w.heap.size, 0, none⟩ = some (.string ⟨x.toArray⟩) := (hc.cell (p := ⟨w.heap.size, 0, none⟩) (by simp; omega) (by simp [Value.ownBlock])).trans ((World.cell?_alloc_lt _ _ _ (by simp)).trans (World.cell?_alloc_new w _ _ 0))
    obtain ⟨k0, y0, hT⟩ := H.out.turn nobody hcc (fun _ e => e.elim) (ls := []) (v' := .slice (some ⟨w.heap.size + 1, 0, none⟩) 0 0) (by simpa using ho) (fun k hk => .inr (by
      rcases hn k hk with h | h
      · simp [Value.ownBlock] at h; omega
      · (try rw [World.size_alloc, World.size_alloc] at h); omega))
    rw [c0] at k0
    try simp only [Nat.zero_add] at hT
    have HT := hide hT
    clear hT hcc ho hc hn
    go_wp2
    go_ret2
    exact ⟨rfl, HT.out⟩
  · rw [if_neg h3] at Hsrc
    go_enter Try.func28, Try.ntmps28
    go_wp2_with (at_builtin; refine wpList_appAt 60 (.agg #[.string .empty, .bool false]) 2 24 (by kernel_rfl) info60 rfl (.slice (some ⟨w.heap.size + 1, 0, none⟩) 0 0) 0 [] 0 _ r.length (rcells r) rfl rfl (by have := Own.made (w.alloc (.cells #[.string ⟨x.toArray⟩, .bool x.isEmpty] 60)) #[] 60 2 0 0 rfl (by decide); rw [World.size_alloc] at this; exact this) (by omega) Hsrc.out (by unfold maxLen; omega) (by omega) ?_)
    intro v' w2 ho hc hn _
    obtain ⟨av, cv, rfl, _, _⟩ := ho.form
    have hcc : Chg nobody w w2 := (((Chg.refl nobody w).alloc _).alloc _).trans hc (fun i hi e => by simp [Value.ownBlock] at e; omega)
    have hxb : w2.cell? ⟨w.heap.size, 0, none⟩ = some (.string ⟨x.toArray⟩) := (hc.cell (p := ⟨w.heap.size, 0, none⟩) (by simp; omega) (by simp [Value.ownBlock])).trans ((World.cell?_alloc_lt _ _ _ (by simp)).trans (World.cell?_alloc_new w _ _ 0))
    obtain ⟨k0, y0, hT⟩ := H.out.turn nobody hcc (fun _ e => e.elim) (ls := r) (v' := .slice av (0 + r.length) cv) (by simpa using ho) (fun k hk => .inr (by
      rcases hn k hk with h | h
      · simp [Value.ownBlock] at h; omega
      · (try rw [World.size_alloc, World.size_alloc] at h); omega))
    rw [c0] at k0
    try simp only [Nat.zero_add] at hT
    have HT := hide hT
    clear hT hcc ho hc hn
    go_wp2
    go_ret2
    exact ⟨rfl, HT.out⟩

theorem extr_drop (x : List UInt8) (n : Nat) : (ByteArray.mk x.toArray).extract n x.length = ⟨(x.drop n).toArray⟩ := ext_drop x n

set_option maxHeartbeats 2000000 in
theorem rread_part {b : Nat} {S : Nat → Prop} {st : TS} {w : World} (h : RefIs w b S st) (n : Nat) (hn : 1 ≤ n) (x : List UInt8) (r : List (List UInt8)) (hl : st.lines = x :: r) (hx : n < x.length) (hw : waitOf st.lines ≤ 4096) :
    Calls Try.prog 28 #[.pointer (some ⟨b, 0, none⟩), .int .i64 n] w fun e w' => e = .returned (.tuple #[.string ⟨(x.take n).toArray⟩, .bool true]) ∧ RefTo w w' b S { st with lines := x.drop n :: r } := by
  obtain ⟨g, off, cap, c0, hc1, hc2, x0, x1, hsrc⟩ := h.head x r hl
  obtain ⟨a', cap', c0', c1, c2, c3⟩ := h.cells
  obtain ⟨z0, z1, z2, z3⟩ := h.free
  have hll := len_le_wait st.lines
  have hrl : r.length ≤ 4096 := by rw [hl] at hll; simp only [List.length_cons] at hll; rw [hl] at hw; omega
  have hxl : x.length ≤ 4096 := by rw [hl] at hw; simp only [waitOf] at hw; omega
  have hxs : (ByteArray.mk x.toArray).size = x.length := arr_size x
  have e0 : ((r.length : Int) + 1 == 0) = false := by simp; omega
  have e1 : decide ((n : Int) < 1) = false := by simp; omega
  have e2 : decide ((x.length : Int) ≤ (n : Int)) = false := by simp; omega
  have e3 : (n : Int) ≤ (x.length : Int) := by omega
  have e4 : (0 : Int) ≤ (n : Int) := by omega
  have hblt : b < w.heap.size := by obtain ⟨lv, h, _⟩ := h; exact h.blk.lt
  have H := hide h
  have Hsrc := hide hsrc
  have Hxs := hide hxs
  have hdn : (x.drop n).isEmpty = false := by rw [List.isEmpty_eq_false_iff]; intro h0; have := congrArg List.length h0; simp at this; omega
  have hrc : ∀ r : List (List UInt8), rcells (x.drop n :: r) = [.string ⟨(x.drop n).toArray⟩, .bool false] ++ rcells r := fun r => by simp [rcells, hdn]
  have Hrc := hide hrc
  clear h hsrc hl c0' hll hxs hw hdn hrc
  have xw : (w.alloc (.cells #[.string ⟨x.toArray⟩, .bool x.isEmpty] 60)).cell? ⟨w.heap.size, 0, none⟩ = some (.string ⟨x.toArray⟩) := World.cell?_alloc_new w _ _ 0
  have hown : ∀ W : World, Own (W.alloc (.cells #[.string ⟨(x.drop n).toArray⟩, .bool false] 60)) 60 2 (.slice (some ⟨W.heap.size, 0, none⟩) 1 1) 1 [.string ⟨(x.drop n).toArray⟩, .bool false] 0 := fun W => Own.made W #[.string ⟨(x.drop n).toArray⟩, .bool false] 60 2 1 0 rfl (by decide)
  have Hown := hide hown
  clear hown
  have bw : (w.alloc (.cells #[.string ⟨x.toArray⟩, .bool x.isEmpty] 60)).cell? ⟨b, 0, none⟩ = some (.slice (some ⟨g, off, none⟩) (r.length + 1) cap) := (World.cell?_alloc_lt _ _ _ hblt).trans c0
  have hext := extr_drop x n
  have f1 : (1 : Int) ≤ (r.length : Int) + 1 := by omega
  have f2 : (r.length : Int) + 1 ≤ (cap : Int) := by omega
  have hcc0 : ∀ w2, Chg (fun b => (Value.slice (some ⟨w.heap.size + 1, 0, none⟩) 1 1).ownBlock = some b) ((w.alloc (.cells #[.string ⟨x.toArray⟩, .bool x.isEmpty] 60)).alloc (.cells #[.string ⟨(x.drop n).toArray⟩, .bool false] 60)).drew w2 → Chg nobody w w2 := fun w2 hc =>
    ((((Chg.refl nobody w).alloc _).alloc _).drew).trans hc (fun i hi e => by simp [Value.ownBlock] at e; omega)
  have hx2 : ∀ w2, Chg (fun b => (Value.slice (some ⟨w.heap.size + 1, 0, none⟩) 1 1).ownBlock = some b) ((w.alloc (.cells #[.string ⟨x.toArray⟩, .bool x.isEmpty] 60)).alloc (.cells #[.string ⟨(x.drop n).toArray⟩, .bool false] 60)).drew w2 → w2.cell? ⟨w.heap.size, 0, none⟩ = some (.string ⟨x.toArray⟩) := fun w2 hc =>
    (hc.cell (p := ⟨w.heap.size, 0, none⟩) (by simp; omega) (by simp [Value.ownBlock])).trans ((World.cell?_alloc_lt _ _ _ (by simp)).trans (World.cell?_alloc_new w _ _ 0))
  have hown2 : Own ((w.alloc (.cells #[.string ⟨x.toArray⟩, .bool x.isEmpty] 60)).alloc (.cells #[.string ⟨(x.drop n).toArray⟩, .bool false] 60)).drew 60 2 (.slice (some ⟨w.heap.size + 1, 0, none⟩) 1 1) 1 [.string ⟨(x.drop n).toArray⟩, .bool false] 0 := by
    have := Hown.out (w.alloc (.cells #[.string ⟨x.toArray⟩, .bool x.isEmpty] 60))
    rw [World.size_alloc] at this
    exact this
  have hsrc2 := Hsrc.out ((w.alloc (.cells #[.string ⟨x.toArray⟩, .bool x.isEmpty] 60)).alloc (.cells #[.string ⟨(x.drop n).toArray⟩, .bool false] 60)).drew ((((Chg.refl nobody w).alloc _).alloc _).drew)
  have Hown2 := hide hown2
  clear hown2
  by_cases h3 : cap = 1
  · subst h3
    rw [if_pos rfl] at hsrc2
    have hr0 : r.length = 0 := by omega
    have hr1 : r = [] := List.eq_nil_of_length_eq_zero hr0
    subst hr1
    have Hsrc2 := hide hsrc2
    clear hsrc2
    go_enter Try.func28, Try.ntmps28
    go_wp2_with fail
    refine wp_region_perm [0, 1, 2, 3, 4, 5, 7, 8, 9, 10, 11] [6, 12, 13, 14, 15] (by kernel_rfl) (by kernel_rfl) (fun w' => w'.cell? ⟨w.heap.size, 0, none⟩ = some (.string ⟨x.toArray⟩) ∧ w'.cell? ⟨b, 0, none⟩ = some (.slice (some ⟨g, off, none⟩) 1 1)) ⟨xw, bw⟩ ?_
    simp only [pick, List.getElem?_cons_zero, List.getElem?_cons_succ]
    repeat
      refine wpTake_cons ?_ (by rfl) ?_ ?_
      rotate_left
      · (intro W hSW; obtain ⟨hS1, hS2⟩ := hSW; go_simp; try with_reducible rfl)
      simp only [Act.put, List.setIfInBounds_toArray, List.set_cons_zero, List.set_cons_succ]
    refine wpTake_nil ?_
    refine wpForce_cons fun K1 hK1 => ?_
    refine step_val (.slice (some ⟨w.heap.size + 1, 0, none⟩) 1 1) ((w.alloc (.cells #[.string ⟨x.toArray⟩, .bool x.isEmpty] 60)).drew.alloc (.cells #[.string ⟨(x.drop n).toArray⟩, .bool false] 60)) (by rfl) (by go_simp) ?_
    refine hK1.out _ _ ⟨by go_simp, by go_simp⟩ ?_
    simp only [Act.put, List.setIfInBounds_toArray, List.set_cons_zero, List.set_cons_succ]
    refine wpForce_cons fun K2 hK2 => ?_
    refine step_appAt (by rfl) (.tmp 46) (.tmp 51) 44 44 (by rfl) 60 (.agg #[.string .empty, .bool false]) 2 24 (by kernel_rfl) info60 rfl (.slice (some ⟨w.heap.size + 1, 0, none⟩) 1 1) 1 [.string ⟨(x.drop n).toArray⟩, .bool false] 0 _ 0 (rcells []) (by rfl) (by rfl) (by exact Hown2.out) (by omega) (by exact Hsrc2.out) (by unfold maxLen; omega) (by omega) ?_
    intro v' w2 ho hc hn he
    obtain rfl := he rfl
    have hcc : Chg nobody w w2 := hcc0 w2 hc
    have kx := hx2 w2 hc
    obtain ⟨k0, y0, hT⟩ := H.out.turn nobody hcc (fun _ e => e.elim) (ls := x.drop n :: []) (v' := .slice (some ⟨w.heap.size + 1, 0, none⟩) 1 1) (by rw [Hrc.out, List.length_cons]; exact ho) (fun k hk => .inr (by
      rcases hn k hk with h | h
      · simp [Value.ownBlock] at h; omega
      · rw [World.size_alloc] at h; have : (w.alloc (.cells #[.string ⟨x.toArray⟩, .bool x.isEmpty] 60)).drew.heap.size = w.heap.size + 1 := World.size_alloc _ _; omega))
    rw [c0] at k0
    have HT := hide hT
    clear hT hcc ho hc hn
    refine hK2.out _ _ ⟨kx, k0⟩ ?_
    simp only [Act.put, List.setIfInBounds_toArray, List.set_cons_zero, List.set_cons_succ]
    refine wpForce_cons fun K3 hK3 => ?_
    refine step_val (.pointer (some ⟨b, 0, none⟩)) w2 (by rfl) (by go_simp) ?_
    refine hK3.out _ _ ⟨kx, k0⟩ ?_
    simp only [Act.put, List.setIfInBounds_toArray, List.set_cons_zero, List.set_cons_succ]
    refine wpForce_cons fun K4 hK4 => ?_
    refine step_val (.pointer (some ⟨b, 0, none⟩)) w2 (by rfl) (by go_simp) ?_
    refine hK4.out _ _ ⟨kx, k0⟩ ?_
    simp only [Act.put, List.setIfInBounds_toArray, List.set_cons_zero, List.set_cons_succ]
    refine wpForce_one ?_
    clear hK1 hK2 hK3 hK4
    go_wp2
    refine NoPanic.normal ?_
    have hext2 := ext_take x n
    go_wp2
    go_ret2
    exact ⟨rfl, HT.out⟩
  · rw [if_neg h3] at hsrc2
    have Hsrc2 := hide hsrc2
    clear hsrc2
    go_enter Try.func28, Try.ntmps28
    go_wp2_with fail
    refine wp_region_perm [0, 1, 2, 3, 4, 5, 7, 8, 9, 10, 11] [6, 12, 13, 14, 15] (by kernel_rfl) (by kernel_rfl) (fun w' => w'.cell? ⟨w.heap.size, 0, none⟩ = some (.string ⟨x.toArray⟩) ∧ w'.cell? ⟨b, 0, none⟩ = some (.slice (some ⟨g, off, none⟩) (r.length + 1) cap)) ⟨xw, bw⟩ ?_
    simp only [pick, List.getElem?_cons_zero, List.getElem?_cons_succ]
    repeat
      refine wpTake_cons ?_ (by rfl) ?_ ?_
      rotate_left
      · (intro W hSW; obtain ⟨hS1, hS2⟩ := hSW; go_simp; try with_reducible rfl)
      simp only [Act.put, List.setIfInBounds_toArray, List.set_cons_zero, List.set_cons_succ]
    refine wpTake_nil ?_
    refine wpForce_cons fun K1 hK1 => ?_
    refine step_val (.slice (some ⟨w.heap.size + 1, 0, none⟩) 1 1) ((w.alloc (.cells #[.string ⟨x.toArray⟩, .bool x.isEmpty] 60)).drew.alloc (.cells #[.string ⟨(x.drop n).toArray⟩, .bool false] 60)) (by rfl) (by go_simp) ?_
    refine hK1.out _ _ ⟨by go_simp, by go_simp⟩ ?_
    simp only [Act.put, List.setIfInBounds_toArray, List.set_cons_zero, List.set_cons_succ]
    refine wpForce_cons fun K2 hK2 => ?_
    refine step_appAt (by rfl) (.tmp 46) (.tmp 51) 44 44 (by rfl) 60 (.agg #[.string .empty, .bool false]) 2 24 (by kernel_rfl) info60 rfl (.slice (some ⟨w.heap.size + 1, 0, none⟩) 1 1) 1 [.string ⟨(x.drop n).toArray⟩, .bool false] 0 _ r.length (rcells r) (by rfl) (by rfl) (by exact Hown2.out) (by omega) (by exact Hsrc2.out) (by unfold maxLen; omega) (by omega) ?_
    intro v' w2 ho hc hn he
    obtain ⟨av, cv, rfl, _, _⟩ := ho.form
    have hcc : Chg nobody w w2 := hcc0 w2 hc
    have kx := hx2 w2 hc
    obtain ⟨k0, y0, hT⟩ := H.out.turn nobody hcc (fun _ e => e.elim) (ls := x.drop n :: r) (v' := .slice av (1 + r.length) cv) (by rw [Hrc.out, List.length_cons, Nat.add_comm r.length 1]; exact ho) (fun k hk => .inr (by
      rcases hn k hk with h | h
      · simp [Value.ownBlock] at h; omega
      · rw [World.size_alloc] at h; have : (w.alloc (.cells #[.string ⟨x.toArray⟩, .bool x.isEmpty] 60)).drew.heap.size = w.heap.size + 1 := World.size_alloc _ _; omega))
    rw [c0] at k0
    have HT := hide hT
    clear hT hcc ho hc hn he
    refine hK2.out _ _ ⟨kx, k0⟩ ?_
    simp only [Act.put, List.setIfInBounds_toArray, List.set_cons_zero, List.set_cons_succ]
    refine wpForce_cons fun K3 hK3 => ?_
    refine step_val (.pointer (some ⟨b, 0, none⟩)) w2 (by rfl) (by go_simp) ?_
    refine hK3.out _ _ ⟨kx, k0⟩ ?_
    simp only [Act.put, List.setIfInBounds_toArray, List.set_cons_zero, List.set_cons_succ]
    refine wpForce_cons fun K4 hK4 => ?_
    refine step_val (.pointer (some ⟨b, 0, none⟩)) w2 (by rfl) (by go_simp) ?_
    refine hK4.out _ _ ⟨kx, k0⟩ ?_
    simp only [Act.put, List.setIfInBounds_toArray, List.set_cons_zero, List.set_cons_succ]
    refine wpForce_one ?_
    clear hK1 hK2 hK3 hK4
    go_wp2
    refine NoPanic.normal ?_
    have hext2 := ext_take x n
    go_wp2
    go_ret2
    exact ⟨rfl, HT.out⟩

theorem rread_any {b : Nat} {S : Nat → Prop} {st : TS} {w : World} (h : RefIs w b S st) (n : Int) (hw : waitOf st.lines ≤ 4096) :
    Calls Try.prog 28 #[.pointer (some ⟨b, 0, none⟩), .int .i64 n] w fun e w' => e = .returned (.tuple #[.string ⟨(st.rdS n).toArray⟩, .bool (st.rdOk n)]) ∧ RefTo w w' b S (st.rd n) := by
  by_cases hn : n < 1
  · refine (rread_neg h n hn).mono ?_
    rintro e w' ⟨rfl, rfl⟩
    refine ⟨by simp [TS.rdS, TS.rdOk, hn], ?_⟩
    rw [show st.rd n = st from by simp [TS.rd, hn]]
    exact RefTo.refl h
  · cases hl : st.lines with
    | nil =>
      refine (rread_none h n (by omega) hl).mono ?_
      rintro e w' ⟨rfl, rfl⟩
      refine ⟨by simp [TS.rdS, TS.rdOk, hn, hl], ?_⟩
      rw [show st.rd n = st from by simp [TS.rd, hn, hl]]
      exact RefTo.refl h
    | cons x r =>
      by_cases hx : n < x.length
      · obtain ⟨m, rfl⟩ : ∃ m : Nat, n = m := ⟨n.toNat, by omega⟩
        refine (rread_part h m (by omega) x r hl (by omega) hw).mono ?_
        rintro e w' ⟨rfl, h'⟩
        have hx' : m < x.length := by omega
        refine ⟨by simp [TS.rdS, TS.rdOk, hn, hl, hx'], ?_⟩
        rw [show st.rd m = { st with lines := x.drop m :: r } from by simp [TS.rd, hn, hl, hx']]
        exact h'
      · refine (rread_all h n (by omega) x r hl (by omega) hw).mono ?_
        rintro e w' ⟨rfl, h'⟩
        refine ⟨by simp [TS.rdS, TS.rdOk, hn, hl, hx], ?_⟩
        rw [show st.rd n = { st with lines := r } from by simp [TS.rd, hn, hl, hx]]
        exact h'

end Go.Proofs.Ytpabcopkecgphaa
