/- The reference's terminal: what a byte that is typed makes of it. Printed by genT.py. -/
import Derived.Test.YtpabcopkecgphaaS
namespace Go.Proofs.Ytpabcopkecgphaa
open Go.RowKit

/-- A line more: what the append leaves. -/
theorem RefAt.more {w w1 w2 : World} {b : Nat} {lv : Value} {st : TS} (h : RefAt w b lv st) (hA : Chg nobody w w1) {v' : Value} {l : List UInt8}
    (ho : Own w2 60 2 v' (st.lines.length + 1) (rcells st.lines ++ rcells [l]) 0) (hc : Chg (fun k => lv.ownBlock = some k) w1 w2) (hn : ∀ k, v'.ownBlock = some k → lv.ownBlock = some k ∨ w1.heap.size ≤ k) :
    w2.cell? ⟨b, 0, none⟩ = some lv ∧ w2.cell? ⟨b, 1, none⟩ = some (.string ⟨st.typed.toArray⟩) ∧ w2.cell? ⟨b, 3, none⟩ = some (.string ⟨st.screen.toArray⟩) ∧ w2.frozen? ⟨b, 0, none⟩ = false ∧ w2.frozen? ⟨b, 1, none⟩ = false ∧ w2.frozen? ⟨b, 3, none⟩ = false ∧
      RefTo w (w2.setCell ⟨b, 0, none⟩ v') b (rOwn b lv) { st with lines := st.lines ++ [l] } := by
  have hne : ∀ k, lv.ownBlock = some k → k ≠ b := fun k hk e => h.n (by rw [hk, e])
  have hcc : Chg (fun k => lv.ownBlock = some k) w w2 := (hA.mono (fun _ _ e => e.elim)).trans hc fun _ _ e => e
  have hb2 := h.blk.chg hcc (fun e => hne b e rfl)
  obtain ⟨h1, h2, h3⟩ := RefIs.turn (st := st) ⟨lv, h, rfl⟩ (fun k => lv.ownBlock = some k) hcc (fun k e _ => ⟨.inr e, hne k e⟩) (v' := v') (ls := st.lines ++ [l]) (by rw [rcells_append, List.length_append]; exact ho) fun k hk => by
    rcases hn k hk with h1 | h1
    · exact .inl ⟨.inr h1, hne k h1⟩
    · exact .inr (Nat.le_trans hA.size h1)
  exact ⟨hb2.cell 0, hb2.cell 1, hb2.cell 3, hb2.frozen 0, hb2.frozen 1, hb2.frozen 3, h3⟩

theorem RefTo.alloc {w : World} {b : Nat} {S : Nat → Prop} {st : TS} (h : RefIs w b S st) (o : Obj) : RefTo w (w.alloc o) b S st := ⟨S, h.chg ((Chg.refl nobody w).alloc o) (fun _ _ e => e), fun _ hk => .inl hk, (Chg.refl _ w).alloc o⟩
theorem RefTo.drew {w : World} {b : Nat} {S : Nat → Prop} {st : TS} (h : RefIs w b S st) : RefTo w w.drew b S st := ⟨S, h.chg ((Chg.refl nobody w).drew) (fun _ _ e => e), fun _ hk => .inl hk, (Chg.refl _ w).drew⟩
theorem RefIs.free3 {w : World} {b : Nat} {S : Nat → Prop} {st : TS} (h : RefIs w b S st) (o : Obj) : (w.alloc o).frozen? ⟨b, 3, none⟩ = false := by
  obtain ⟨S1, h1, _⟩ := RefTo.alloc h o
  exact h1.free.2.2.2
theorem RefIs.blt {w : World} {b : Nat} {S : Nat → Prop} {st : TS} (h : RefIs w b S st) : b < w.heap.size := by
  obtain ⟨lv, h, _⟩ := h
  exact h.blk.lt

theorem own_line (l : List UInt8) (w : World) : Own (w.alloc (.cells #[.string ⟨l.toArray⟩, .bool l.isEmpty] 60)) 60 2 (.slice (some ⟨w.heap.size, 0, none⟩) 1 1) 1 (rcells [l]) 0 := Own.made w #[.string ⟨l.toArray⟩, .bool l.isEmpty] 60 2 1 0 rfl (by decide)
theorem src_line (l : List UInt8) (w : World) : Src Try.prog 2 44 (.slice (some ⟨w.heap.size, 0, none⟩) 1 1) 1 (rcells [l]) (w.alloc (.cells #[.string ⟨l.toArray⟩, .bool l.isEmpty] 60)) := (own_line l w).src (e' := 60) (by kernel_rfl) (rcells_one _)

set_option maxRecDepth 100000 in
set_option maxHeartbeats 2000000 in
theorem rone_full {b : Nat} {S : Nat → Prop} {st : TS} {w : World} (h : RefIs w b S st) (hi : st.Inv) (c : UInt8) (hsc : st.screen.length + 800 ≤ 1099511620000) (hroom : st.room = false) (hq : ((c.toNat : Int) == 10) = true ∨ (((c.toNat : Int) == 10) = false ∧ ((c.toNat : Int) == 13) = true)) :
    Calls Try.prog 36 #[.pointer (some ⟨b, 0, none⟩), .int .u8 c.toNat] w fun e w' => e = .returned (.tuple #[]) ∧ RefTo w w' b S st := by
  have hf := rfull_any h hi
  have ha := hi.a
  have hb := hi.b
  have hll := len_le_wait st.lines
  have hr : (!st.room) = true := by rw [hroom]; rfl
  rw [hr] at hf
  clear hr
  have Hf := hide hf
  have Hi := hide hi
  clear h hf hi
  go_enter Try.func36, Try.ntmps36
  go_wp2_with fail
  go_at_call 38
  refine Hf.out.mono ?_
  rintro e w1 ⟨rfl, S1, h1, h2, h3⟩
  have H2 := hide h2
  have H3 := hide h3
  have H1 := hide h1
  obtain ⟨lv, h1, rfl⟩ := h1
  obtain ⟨a, cap, rfl, hlc, hcm⟩ := h1.own.form
  have c0 := h1.blk.cell 0
  have c1 := h1.blk.cell 1
  have c2 := h1.blk.cell 2
  have c3 := h1.blk.cell 3
  have z0 := h1.blk.frozen 0
  have z1 := h1.blk.frozen 1
  have z2 := h1.blk.frozen 2
  have z3 := h1.blk.frozen 3
  simp at c0 c1 c2 c3
  unfold maxLen at hcm
  have HA := hide h1
  clear h1 h2 h3
  rcases hq with q1 | ⟨q1, q2⟩
  all_goals
    go_wp2
    go_returns
    exact ⟨rfl, RefTo.then H2.out H3.out (RefTo.refl H1.out)⟩

set_option maxRecDepth 100000 in
set_option maxHeartbeats 2000000 in
theorem rone_feed {b : Nat} {S : Nat → Prop} {st : TS} {w : World} (h : RefIs w b S st) (hi : st.Inv) (c : UInt8) (hsc : st.screen.length + 800 ≤ 1099511620000) (hroom : st.room = true) (hq : ((c.toNat : Int) == 10) = true ∨ (((c.toNat : Int) == 10) = false ∧ ((c.toNat : Int) == 13) = true)) :
    Calls Try.prog 36 #[.pointer (some ⟨b, 0, none⟩), .int .u8 c.toNat] w fun e w' => e = .returned (.tuple #[]) ∧ RefTo w w' b S st.feed := by
  have hf := rfull_any h hi
  have ha := hi.a
  have hb := hi.b
  have hll := len_le_wait st.lines
  have hr : (!st.room) = false := by rw [hroom]; rfl
  rw [hr] at hf
  clear hr
  have hz1 : (ByteArray.mk st.typed.toArray).size ≤ 256 := by rw [arr_size]; omega
  have hz3 : (ByteArray.mk st.screen.toArray).size ≤ 1099511619200 := by rw [arr_size]; omega
  have hcat : (ByteArray.mk st.typed.toArray ++ ⟨#[10]⟩) = ⟨(st.typed ++ [10]).toArray⟩ := arr_app _ _
  have Hcat := hide hcat
  clear hcat
  have Hf := hide hf
  have Hi := hide hi
  clear h hf hi
  go_enter Try.func36, Try.ntmps36
  go_wp2_with fail
  go_at_call 38
  refine Hf.out.mono ?_
  rintro e w1 ⟨rfl, S1, h1, h2, h3⟩
  have H2 := hide h2
  have H3 := hide h3
  have H1 := hide h1
  obtain ⟨lv, h1, rfl⟩ := h1
  obtain ⟨a, cap, rfl, hlc, hcm⟩ := h1.own.form
  have c0 := h1.blk.cell 0
  have c1 := h1.blk.cell 1
  have c2 := h1.blk.cell 2
  have c3 := h1.blk.cell 3
  have z0 := h1.blk.frozen 0
  have z1 := h1.blk.frozen 1
  have z2 := h1.blk.frozen 2
  have z3 := h1.blk.frozen 3
  simp at c0 c1 c2 c3
  unfold maxLen at hcm
  have HA := hide h1
  clear h1 h2 h3
  have hsrc : Src Try.prog 2 44 (.slice (some ⟨w1.heap.size, 0, none⟩) 1 1) 1 (rcells [st.typed ++ [10]]) (w1.drew.alloc (.cells #[.string ⟨(st.typed ++ [10]).toArray⟩, .bool false] 60)) := by
    have h9 := src_line (st.typed ++ [10]) w1.drew
    have he : (st.typed ++ [(10 : UInt8)]).isEmpty = false := by simp
    rw [he] at h9; exact h9
  have Hsrc := hide hsrc
  clear hsrc
  rcases hq with q1 | ⟨q1, q2⟩
  all_goals
    go_wp2_with fail
    refine wp_region_perm [0, 1, 2, 3, 4, 5, 6, 7, 8, 9, 10] [11, 12, 13, 14, 15] (by kernel_rfl) (by kernel_rfl) (fun w' => w'.cell? ⟨b, 0, none⟩ = some (.slice a st.lines.length cap) ∧ w'.cell? ⟨b, 1, none⟩ = some (.string ⟨st.typed.toArray⟩)) ⟨c0, c1⟩ ?_
    simp only [pick, List.getElem?_cons_zero, List.getElem?_cons_succ]
    repeat
      first
      | refine wpTake_cons ?_ (by rfl) ?_ ?_
        rotate_left
        · (intro W hSW; obtain ⟨hS1, hS2⟩ := hSW; go_simp; try with_reducible rfl)
      | refine wpTake_concat ⟨st.typed.toArray⟩ ⟨#[10]⟩ (by rfl) (by rfl) (by show _ + 1 ≤ _; omega) ?_
        rw [Hcat.out]
      simp only [Act.put, List.setIfInBounds_toArray, List.set_cons_zero, List.set_cons_succ]
    refine wpTake_nil ?_
    refine wpForce_cons fun K1 hK1 => ?_
    refine step_val (.slice (some ⟨w1.heap.size, 0, none⟩) 1 1) (w1.drew.alloc (.cells #[.string ⟨(st.typed ++ [10]).toArray⟩, .bool false] 60)) (by rfl) (by go_simp) ?_
    refine hK1.out _ _ ⟨(World.cell?_alloc_lt w1.drew _ _ (by exact HA.out.blk.lt)).trans c0, (World.cell?_alloc_lt w1.drew _ _ (by exact HA.out.blk.lt)).trans c1⟩ ?_
    simp only [Act.put, List.setIfInBounds_toArray, List.set_cons_zero, List.set_cons_succ]
    refine wpForce_cons fun K2 hK2 => ?_
    refine step_appAt (by rfl) (.tmp 19) (.tmp 26) 44 44 (by rfl) 60 (.agg #[.string .empty, .bool false]) 2 24 (by kernel_rfl) info60 rfl (.slice a st.lines.length cap) st.lines.length (rcells st.lines) 0 (.slice (some ⟨w1.heap.size, 0, none⟩) 1 1) 1 (rcells [st.typed ++ [10]]) (by rfl) (by rfl) (by exact HA.out.own.alloc (w := w1.drew) _) (by omega) (by exact Hsrc.out) (by unfold maxLen; omega) (by omega) ?_
    intro v' w2 ho hc hn _
    obtain ⟨av, cv, rfl, _, _⟩ := ho.form
    obtain ⟨k0, k1, k3, y0, y1, y3, hT⟩ := HA.out.more (l := st.typed ++ [10]) (((Chg.refl nobody w1).drew).alloc (.cells #[.string ⟨(st.typed ++ [10]).toArray⟩, .bool false] 60)) ho hc hn
    have HT := hide hT
    clear hT ho hc hn
    refine hK2.out _ _ ⟨k0, k1⟩ ?_
    simp only [Act.put, List.setIfInBounds_toArray, List.set_cons_zero, List.set_cons_succ]
    refine wpForce_cons fun K3 hK3 => ?_
    refine step_val (.pointer (some ⟨b, 0, none⟩)) w2 (by rfl) (by go_simp) ?_
    refine hK3.out _ _ ⟨k0, k1⟩ ?_
    simp only [Act.put, List.setIfInBounds_toArray, List.set_cons_zero, List.set_cons_succ]
    refine wpForce_cons fun K4 hK4 => ?_
    refine step_val (.pointer (some ⟨b, 0, none⟩)) w2 (by rfl) (by go_simp) ?_
    refine hK4.out _ _ ⟨k0, k1⟩ ?_
    simp only [Act.put, List.setIfInBounds_toArray, List.set_cons_zero, List.set_cons_succ]
    refine wpForce_one ?_
    clear hK1 hK2 hK3 hK4
    go_wp2
    refine NoPanic.normal ?_
    go_wp2
    go_returns
    refine ⟨rfl, RefTo.then H2.out H3.out (HT.out.trans fun S2 h4 => (RefTo.set h4 1 (.string ⟨#[]⟩) { st with lines := st.lines ++ [st.typed ++ [10]], typed := [] } rfl (fun _ => rfl)).trans fun S3 h5 => ?_)⟩
    rw [arr_app]
    exact RefTo.set h5 3 _ _ rfl (fun _ => rfl)

set_option maxRecDepth 100000 in
set_option maxHeartbeats 2000000 in
theorem rone_end {b : Nat} {S : Nat → Prop} {st : TS} {w : World} (h : RefIs w b S st) (hi : st.Inv) (c : UInt8) (hsc : st.screen.length + 800 ≤ 1099511620000) (ht : st.typed ≠ []) (q1 : ((c.toNat : Int) == 10) = false) (q2 : ((c.toNat : Int) == 13) = false) (q3 : ((c.toNat : Int) == 4) = true) :
    Calls Try.prog 36 #[.pointer (some ⟨b, 0, none⟩), .int .u8 c.toNat] w fun e w' => e = .returned (.tuple #[]) ∧ RefTo w w' b S (st.come st.typed) := by
  have hf := rfull_any h hi
  have ha := hi.a
  have hb := hi.b
  have hll := len_le_wait st.lines
  have hz1 : (ByteArray.mk st.typed.toArray).size ≤ 256 := by rw [arr_size]; omega
  have hz3 : (ByteArray.mk st.screen.toArray).size ≤ 1099511619200 := by rw [arr_size]; omega
  have he1 : (ByteArray.mk st.typed.toArray).toList.isEmpty = false := by rw [ByteArray.toList_eq]; simpa using ht
  have he2 : ((ByteArray.mk st.typed.toArray).toList == []) = false := by rw [ByteArray.toList_eq]; simpa using ht
  have he3 : st.typed.isEmpty = false := by simpa using ht
  have he4 : (st.typed == []) = false := by simpa using ht
  have hr2 : st.typed.isEmpty = false := he3
  have Hr2 := hide hr2
  clear hr2
  clear ht
  have Hf := hide hf
  have Hi := hide hi
  clear h hf hi
  go_enter Try.func36, Try.ntmps36
  go_wp2_with fail
  go_at_call 38
  refine Hf.out.mono ?_
  rintro e w1 ⟨rfl, S1, h1, h2, h3⟩
  have H2 := hide h2
  have H3 := hide h3
  have H1 := hide h1
  obtain ⟨lv, h1, rfl⟩ := h1
  obtain ⟨a, cap, rfl, hlc, hcm⟩ := h1.own.form
  have c0 := h1.blk.cell 0
  have c1 := h1.blk.cell 1
  have c2 := h1.blk.cell 2
  have c3 := h1.blk.cell 3
  have z0 := h1.blk.frozen 0
  have z1 := h1.blk.frozen 1
  have z2 := h1.blk.frozen 2
  have z3 := h1.blk.frozen 3
  simp at c0 c1 c2 c3
  unfold maxLen at hcm
  have HA := hide h1
  clear h1 h2 h3
  have hsrc : Src Try.prog 2 44 (.slice (some ⟨w1.heap.size, 0, none⟩) 1 1) 1 (rcells [st.typed]) (w1.drew.alloc (.cells #[.string ⟨st.typed.toArray⟩, .bool false] 60)) := by
    have h9 := src_line st.typed w1.drew
    rw [Hr2.out] at h9; exact h9
  have Hsrc := hide hsrc
  clear hsrc
  go_wp2_with fail
  refine wp_region_perm [0, 1, 2, 3, 4, 5, 6, 7, 8, 9] [10, 11, 12, 13, 14] (by kernel_rfl) (by kernel_rfl) (fun w' => w'.cell? ⟨b, 0, none⟩ = some (.slice a st.lines.length cap) ∧ w'.cell? ⟨b, 1, none⟩ = some (.string ⟨st.typed.toArray⟩)) ⟨c0, c1⟩ ?_
  simp only [pick, List.getElem?_cons_zero, List.getElem?_cons_succ]
  repeat
    first
    | refine wpTake_cons ?_ (by rfl) ?_ ?_
      rotate_left
      · (intro W hSW; obtain ⟨hS1, hS2⟩ := hSW; go_simp; try with_reducible rfl)
    simp only [Act.put, List.setIfInBounds_toArray, List.set_cons_zero, List.set_cons_succ]
  refine wpTake_nil ?_
  refine wpForce_cons fun K1 hK1 => ?_
  refine step_val (.slice (some ⟨w1.heap.size, 0, none⟩) 1 1) (w1.drew.alloc (.cells #[.string ⟨st.typed.toArray⟩, .bool false] 60)) (by rfl) (by go_simp) ?_
  refine hK1.out _ _ ⟨(World.cell?_alloc_lt w1.drew _ _ (by exact HA.out.blk.lt)).trans c0, (World.cell?_alloc_lt w1.drew _ _ (by exact HA.out.blk.lt)).trans c1⟩ ?_
  simp only [Act.put, List.setIfInBounds_toArray, List.set_cons_zero, List.set_cons_succ]
  refine wpForce_cons fun K2 hK2 => ?_
  refine step_appAt (by rfl) (.tmp 53) (.tmp 59) 44 44 (by rfl) 60 (.agg #[.string .empty, .bool false]) 2 24 (by kernel_rfl) info60 rfl (.slice a st.lines.length cap) st.lines.length (rcells st.lines) 0 (.slice (some ⟨w1.heap.size, 0, none⟩) 1 1) 1 (rcells [st.typed]) (by rfl) (by rfl) (by exact HA.out.own.alloc (w := w1.drew) _) (by omega) (by exact Hsrc.out) (by unfold maxLen; omega) (by omega) ?_
  intro v' w2 ho hc hn _
  obtain ⟨av, cv, rfl, _, _⟩ := ho.form
  obtain ⟨k0, k1, k3, y0, y1, y3, hT⟩ := HA.out.more (l := st.typed) (((Chg.refl nobody w1).drew).alloc (.cells #[.string ⟨st.typed.toArray⟩, .bool false] 60)) ho hc hn
  have HT := hide hT
  clear hT ho hc hn
  refine hK2.out _ _ ⟨k0, k1⟩ ?_
  simp only [Act.put, List.setIfInBounds_toArray, List.set_cons_zero, List.set_cons_succ]
  refine wpForce_cons fun K3 hK3 => ?_
  refine step_val (.pointer (some ⟨b, 0, none⟩)) w2 (by rfl) (by go_simp) ?_
  refine hK3.out _ _ ⟨k0, k1⟩ ?_
  simp only [Act.put, List.setIfInBounds_toArray, List.set_cons_zero, List.set_cons_succ]
  refine wpForce_cons fun K4 hK4 => ?_
  refine step_val (.pointer (some ⟨b, 0, none⟩)) w2 (by rfl) (by go_simp) ?_
  refine hK4.out _ _ ⟨k0, k1⟩ ?_
  simp only [Act.put, List.setIfInBounds_toArray, List.set_cons_zero, List.set_cons_succ]
  refine wpForce_one ?_
  clear hK1 hK2 hK3 hK4
  go_wp2
  refine NoPanic.normal ?_
  go_wp2
  go_returns
  exact ⟨rfl, RefTo.then H2.out H3.out (HT.out.trans fun S2 h4 => RefTo.set h4 1 (.string ⟨#[]⟩) (st.come st.typed) rfl (fun _ => rfl))⟩

set_option maxRecDepth 100000 in
set_option maxHeartbeats 2000000 in
theorem rone_end0 {b : Nat} {S : Nat → Prop} {st : TS} {w : World} (h : RefIs w b S st) (hi : st.Inv) (c : UInt8) (hsc : st.screen.length + 800 ≤ 1099511620000) (ht : st.typed = []) (hroom : st.room = true) (q1 : ((c.toNat : Int) == 10) = false) (q2 : ((c.toNat : Int) == 13) = false) (q3 : ((c.toNat : Int) == 4) = true) :
    Calls Try.prog 36 #[.pointer (some ⟨b, 0, none⟩), .int .u8 c.toNat] w fun e w' => e = .returned (.tuple #[]) ∧ RefTo w w' b S (st.come []) := by
  have hf := rfull_any h hi
  have ha := hi.a
  have hb := hi.b
  have hll := len_le_wait st.lines
  have hr : (!st.room) = false := by rw [hroom]; rfl
  rw [hr] at hf
  clear hr
  have hz1 : (ByteArray.mk st.typed.toArray).size ≤ 256 := by rw [arr_size]; omega
  have hz3 : (ByteArray.mk st.screen.toArray).size ≤ 1099511619200 := by rw [arr_size]; omega
  have Hf := hide hf
  have Hi := hide hi
  clear h hf hi
  go_enter Try.func36, Try.ntmps36
  go_wp2_with fail
  go_at_call 38
  refine Hf.out.mono ?_
  rintro e w1 ⟨rfl, S1, h1, h2, h3⟩
  have H2 := hide h2
  have H3 := hide h3
  have H1 := hide h1
  obtain ⟨lv, h1, rfl⟩ := h1
  obtain ⟨a, cap, rfl, hlc, hcm⟩ := h1.own.form
  have c0 := h1.blk.cell 0
  have c1 := h1.blk.cell 1
  have c2 := h1.blk.cell 2
  have c3 := h1.blk.cell 3
  have z0 := h1.blk.frozen 0
  have z1 := h1.blk.frozen 1
  have z2 := h1.blk.frozen 2
  have z3 := h1.blk.frozen 3
  simp at c0 c1 c2 c3
  unfold maxLen at hcm
  have HA := hide h1
  clear h1 h2 h3
  rw [ht] at c1
  have Ht := hide ht
  have hsrc := src_line [] w1
  have Hsrc := hide hsrc
  clear hsrc ht
  go_wp2_with (at_builtin; refine wpList_appAt 60 (.agg #[.string .empty, .bool false]) 2 24 (by kernel_rfl) info60 rfl (.slice a st.lines.length cap) st.lines.length (rcells st.lines) 0 (.slice (some ⟨w1.heap.size, 0, none⟩) 1 1) 1 (rcells [[]]) rfl rfl (HA.out.own.alloc _) (by omega) Hsrc.out (by unfold maxLen; omega) (by omega) ?_)
  intro v' w2 ho hc hn _
  obtain ⟨av, cv, rfl, _, _⟩ := ho.form
  obtain ⟨k0, k1, k3, y0, y1, y3, hT⟩ := HA.out.more (l := []) ((Chg.refl nobody w1).alloc _) ho hc hn
  have HT := hide hT
  clear hT ho hc hn
  go_wp2
  go_returns
  rw [show st.come [] = { st with lines := st.lines ++ [[]] } from by unfold TS.come; rw [Ht.out]]
  exact ⟨rfl, RefTo.then H2.out H3.out HT.out⟩

set_option maxRecDepth 100000 in
set_option maxHeartbeats 2000000 in
theorem rone_end1 {b : Nat} {S : Nat → Prop} {st : TS} {w : World} (h : RefIs w b S st) (hi : st.Inv) (c : UInt8) (hsc : st.screen.length + 800 ≤ 1099511620000) (ht : st.typed = []) (hroom : st.room = false) (q1 : ((c.toNat : Int) == 10) = false) (q2 : ((c.toNat : Int) == 13) = false) (q3 : ((c.toNat : Int) == 4) = true) :
    Calls Try.prog 36 #[.pointer (some ⟨b, 0, none⟩), .int .u8 c.toNat] w fun e w' => e = .returned (.tuple #[]) ∧ RefTo w w' b S st := by
  have hf := rfull_any h hi
  have ha := hi.a
  have hb := hi.b
  have hll := len_le_wait st.lines
  have hr : (!st.room) = true := by rw [hroom]; rfl
  rw [hr] at hf
  clear hr
  have Hf := hide hf
  have Hi := hide hi
  clear h hf hi
  go_enter Try.func36, Try.ntmps36
  go_wp2_with fail
  go_at_call 38
  refine Hf.out.mono ?_
  rintro e w1 ⟨rfl, S1, h1, h2, h3⟩
  have H2 := hide h2
  have H3 := hide h3
  have H1 := hide h1
  obtain ⟨lv, h1, rfl⟩ := h1
  obtain ⟨a, cap, rfl, hlc, hcm⟩ := h1.own.form
  have c0 := h1.blk.cell 0
  have c1 := h1.blk.cell 1
  have c2 := h1.blk.cell 2
  have c3 := h1.blk.cell 3
  have z0 := h1.blk.frozen 0
  have z1 := h1.blk.frozen 1
  have z2 := h1.blk.frozen 2
  have z3 := h1.blk.frozen 3
  simp at c0 c1 c2 c3
  unfold maxLen at hcm
  have HA := hide h1
  clear h1 h2 h3
  rw [ht] at c1
  clear ht
  go_wp2
  go_returns
  exact ⟨rfl, RefTo.then H2.out H3.out (RefTo.refl H1.out)⟩

set_option maxRecDepth 100000 in
set_option maxHeartbeats 2000000 in
theorem rone_back {b : Nat} {S : Nat → Prop} {st : TS} {w : World} (h : RefIs w b S st) (hi : st.Inv) (c : UInt8) (hsc : st.screen.length + 800 ≤ 1099511620000) (q1 : ((c.toNat : Int) == 10) = false) (q2 : ((c.toNat : Int) == 13) = false) (q3 : ((c.toNat : Int) == 4) = false) (hq : ((c.toNat : Int) == 8) = true ∨ (((c.toNat : Int) == 8) = false ∧ ((c.toNat : Int) == 127) = true)) :
    Calls Try.prog 36 #[.pointer (some ⟨b, 0, none⟩), .int .u8 c.toNat] w fun e w' => e = .returned (.tuple #[]) ∧ RefTo w w' b S st.rub := by
  have hf := rfull_any h hi
  have ha := hi.a
  have hb := hi.b
  have hll := len_le_wait st.lines
  have Hf := hide hf
  have Hi := hide hi
  clear h hf hi
  go_enter Try.func36, Try.ntmps36
  go_wp2_with fail
  go_at_call 38
  refine Hf.out.mono ?_
  rintro e w1 ⟨rfl, S1, h1, h2, h3⟩
  have H2 := hide h2
  have H3 := hide h3
  have H1 := hide h1
  obtain ⟨lv, h1, rfl⟩ := h1
  obtain ⟨a, cap, rfl, hlc, hcm⟩ := h1.own.form
  have c0 := h1.blk.cell 0
  have c1 := h1.blk.cell 1
  have c2 := h1.blk.cell 2
  have c3 := h1.blk.cell 3
  have z0 := h1.blk.frozen 0
  have z1 := h1.blk.frozen 1
  have z2 := h1.blk.frozen 2
  have z3 := h1.blk.frozen 3
  simp at c0 c1 c2 c3
  unfold maxLen at hcm
  have HA := hide h1
  clear h1 h2 h3
  rcases hq with q4 | ⟨q4, q5⟩
  all_goals
    go_wp2_with fail
    go_at_call 39
    refine (rback_any H1.out hb (by omega)).mono ?_
    rintro e w2 ⟨rfl, hT⟩
    have HT := hide hT
    clear hT
    go_wp2
    go_returns
    exact ⟨rfl, RefTo.then H2.out H3.out HT.out⟩

set_option maxRecDepth 100000 in
set_option maxHeartbeats 2000000 in
theorem rone_kill {b : Nat} {S : Nat → Prop} {st : TS} {w : World} (h : RefIs w b S st) (hi : st.Inv) (c : UInt8) (hsc : st.screen.length + 800 ≤ 1099511620000) (q1 : ((c.toNat : Int) == 10) = false) (q2 : ((c.toNat : Int) == 13) = false) (q3 : ((c.toNat : Int) == 4) = false) (q4 : ((c.toNat : Int) == 8) = false) (q5 : ((c.toNat : Int) == 127) = false) (q6 : ((c.toNat : Int) == 21) = true) :
    Calls Try.prog 36 #[.pointer (some ⟨b, 0, none⟩), .int .u8 c.toNat] w fun e w' => e = .returned (.tuple #[]) ∧ RefTo w w' b S st.kill := by
  have hf := rfull_any h hi
  have ha := hi.a
  have hb := hi.b
  have hll := len_le_wait st.lines
  have Hf := hide hf
  have Hi := hide hi
  clear h hf hi
  go_enter Try.func36, Try.ntmps36
  go_wp2_with fail
  go_at_call 38
  refine Hf.out.mono ?_
  rintro e w1 ⟨rfl, S1, h1, h2, h3⟩
  have H2 := hide h2
  have H3 := hide h3
  have H1 := hide h1
  obtain ⟨lv, h1, rfl⟩ := h1
  obtain ⟨a, cap, rfl, hlc, hcm⟩ := h1.own.form
  have c0 := h1.blk.cell 0
  have c1 := h1.blk.cell 1
  have c2 := h1.blk.cell 2
  have c3 := h1.blk.cell 3
  have z0 := h1.blk.frozen 0
  have z1 := h1.blk.frozen 1
  have z2 := h1.blk.frozen 2
  have z3 := h1.blk.frozen 3
  simp at c0 c1 c2 c3
  unfold maxLen at hcm
  have HA := hide h1
  clear h1 h2 h3
  obtain ⟨n, hn⟩ : ∃ n : Nat, n = st.typed.length := ⟨_, rfl⟩
  have hn2 : n ≤ 256 := by omega
  have Hn := hide hn
  clear hn c0 c1 c2 c3 z0 z1 z2 z3 HA
  go_wp2_with fail
  go_loopg [] n (fun g wi => ∃ st2, RefTo w1 wi b (rOwn b (.slice a st.lines.length cap)) st2 ∧ st2.kill = st.kill ∧ st2.typed.length = g ∧ g ≤ 256 ∧ st2.screen.length + 3 * g ≤ 1099511621000)
  case atStart => exact ⟨st, RefTo.refl H1.out, rfl, Hn.out.symm, hn2, by omega⟩
  case round =>
    obtain ⟨st2, hT2, hk2, hl2, hg2, hs2⟩ := hrel
    obtain ⟨S2, g1, g2, g3⟩ := hT2
    have G2 := hide g2
    have G3 := hide g3
    have G1 := hide g1
    have Hk2 := hide hk2
    have Hl2 := hide hl2
    obtain ⟨a2, cap2, c0, c1, c2, c3⟩ := g1.cells
    clear g1 g2 g3 hk2 hl2
    by_cases ht : st2.typed = []
    · rw [ht] at c1
      have Ht := hide ht
      clear ht
      go_wp2
      go_returns
      rw [← Hk2.out, kill_nil _ Ht.out]
      exact ⟨rfl, RefTo.then H2.out H3.out ⟨S2, G1.out, G2.out, G3.out⟩⟩
    · have he1 : (ByteArray.mk st2.typed.toArray).toList.isEmpty = false := by rw [ByteArray.toList_eq]; simpa using ht
      have he2 : ((ByteArray.mk st2.typed.toArray).toList == []) = false := by rw [ByteArray.toList_eq]; simpa using ht
      have he3 : st2.typed.isEmpty = false := by simpa using ht
      have he4 : (st2.typed == []) = false := by simpa using ht
      have Ht := hide ht
      have hpos := List.length_pos_iff.2 ht
      clear ht
      have hl3 : st2.typed.length ≤ 256 := by have := Hl2.out; omega
      go_wp2_with fail
      go_at_call 39
      refine (rback_any G1.out hl3 (by have := Hl2.out; omega)).mono ?_
      rintro e w2 ⟨rfl, hT⟩
      have HT := hide hT
      clear hT
      go_wp2
      go_roundg (st2.typed.length - 1)
      case measure => have := Hl2.out; omega
      case rel => exact ⟨st2.rub, RefTo.then G2.out G3.out HT.out, by rw [rub_kill _ Ht.out, Hk2.out], by rw [rub_typed, List.length_dropLast], by omega, by have := rub_screen st2; have := Hl2.out; omega⟩

set_option maxRecDepth 100000 in
set_option maxHeartbeats 2000000 in
theorem rone_put_full {b : Nat} {S : Nat → Prop} {st : TS} {w : World} (h : RefIs w b S st) (hi : st.Inv) (c : UInt8) (hsc : st.screen.length + 800 ≤ 1099511620000) (hroom : st.room = false) (q1 : ((c.toNat : Int) == 10) = false) (q2 : ((c.toNat : Int) == 13) = false) (q3 : ((c.toNat : Int) == 4) = false) (q4 : ((c.toNat : Int) == 8) = false) (q5 : ((c.toNat : Int) == 127) = false) (q6 : ((c.toNat : Int) == 21) = false) (hq : ((c.toNat : Int) == 9) = true ∨ (((c.toNat : Int) == 9) = false ∧ (32 : Int) ≤ (c.toNat : Int) ∧ (c.toNat : Int) ≤ 126)) :
    Calls Try.prog 36 #[.pointer (some ⟨b, 0, none⟩), .int .u8 c.toNat] w fun e w' => e = .returned (.tuple #[]) ∧ RefTo w w' b S st := by
  have hf := rfull_any h hi
  have ha := hi.a
  have hb := hi.b
  have hll := len_le_wait st.lines
  have hr : (!st.room) = true := by rw [hroom]; rfl
  rw [hr] at hf
  clear hr
  have Hf := hide hf
  have Hi := hide hi
  clear h hf hi
  go_enter Try.func36, Try.ntmps36
  go_wp2_with fail
  go_at_call 38
  refine Hf.out.mono ?_
  rintro e w1 ⟨rfl, S1, h1, h2, h3⟩
  have H2 := hide h2
  have H3 := hide h3
  have H1 := hide h1
  obtain ⟨lv, h1, rfl⟩ := h1
  obtain ⟨a, cap, rfl, hlc, hcm⟩ := h1.own.form
  have c0 := h1.blk.cell 0
  have c1 := h1.blk.cell 1
  have c2 := h1.blk.cell 2
  have c3 := h1.blk.cell 3
  have z0 := h1.blk.frozen 0
  have z1 := h1.blk.frozen 1
  have z2 := h1.blk.frozen 2
  have z3 := h1.blk.frozen 3
  simp at c0 c1 c2 c3
  unfold maxLen at hcm
  have HA := hide h1
  clear h1 h2 h3
  rcases hq with q7 | ⟨q7, q8, q9⟩
  all_goals
    go_wp2
    go_returns
    exact ⟨rfl, RefTo.then H2.out H3.out (RefTo.refl H1.out)⟩

set_option maxRecDepth 100000 in
set_option maxHeartbeats 2000000 in
theorem rone_put_long {b : Nat} {S : Nat → Prop} {st : TS} {w : World} (h : RefIs w b S st) (hi : st.Inv) (c : UInt8) (hsc : st.screen.length + 800 ≤ 1099511620000) (hroom : st.room = true) (hlong : ¬ st.typed.length < 256) (q1 : ((c.toNat : Int) == 10) = false) (q2 : ((c.toNat : Int) == 13) = false) (q3 : ((c.toNat : Int) == 4) = false) (q4 : ((c.toNat : Int) == 8) = false) (q5 : ((c.toNat : Int) == 127) = false) (q6 : ((c.toNat : Int) == 21) = false) (hq : ((c.toNat : Int) == 9) = true ∨ (((c.toNat : Int) == 9) = false ∧ (32 : Int) ≤ (c.toNat : Int) ∧ (c.toNat : Int) ≤ 126)) :
    Calls Try.prog 36 #[.pointer (some ⟨b, 0, none⟩), .int .u8 c.toNat] w fun e w' => e = .returned (.tuple #[]) ∧ RefTo w w' b S st := by
  have hf := rfull_any h hi
  have ha := hi.a
  have hb := hi.b
  have hll := len_le_wait st.lines
  have hr : (!st.room) = false := by rw [hroom]; rfl
  rw [hr] at hf
  clear hr
  have Hf := hide hf
  have Hi := hide hi
  clear h hf hi
  go_enter Try.func36, Try.ntmps36
  go_wp2_with fail
  go_at_call 38
  refine Hf.out.mono ?_
  rintro e w1 ⟨rfl, S1, h1, h2, h3⟩
  have H2 := hide h2
  have H3 := hide h3
  have H1 := hide h1
  obtain ⟨lv, h1, rfl⟩ := h1
  obtain ⟨a, cap, rfl, hlc, hcm⟩ := h1.own.form
  have c0 := h1.blk.cell 0
  have c1 := h1.blk.cell 1
  have c2 := h1.blk.cell 2
  have c3 := h1.blk.cell 3
  have z0 := h1.blk.frozen 0
  have z1 := h1.blk.frozen 1
  have z2 := h1.blk.frozen 2
  have z3 := h1.blk.frozen 3
  simp at c0 c1 c2 c3
  unfold maxLen at hcm
  have HA := hide h1
  clear h1 h2 h3
  have qs : decide (256 ≤ st.typed.length) = true := by simp; omega
  have qs2 : decide ((256 : Int) ≤ (st.typed.length : Int)) = true := by simp; omega
  have hsz := arr_size st.typed
  rcases hq with q7 | ⟨q7, q8, q9⟩
  all_goals
    go_wp2
    go_returns
    exact ⟨rfl, RefTo.then H2.out H3.out (RefTo.refl H1.out)⟩

set_option maxRecDepth 100000 in
set_option maxHeartbeats 2000000 in
theorem rone_other {b : Nat} {S : Nat → Prop} {st : TS} {w : World} (h : RefIs w b S st) (hi : st.Inv) (c : UInt8) (hsc : st.screen.length + 800 ≤ 1099511620000) (q1 : ((c.toNat : Int) == 10) = false) (q2 : ((c.toNat : Int) == 13) = false) (q3 : ((c.toNat : Int) == 4) = false) (q4 : ((c.toNat : Int) == 8) = false) (q5 : ((c.toNat : Int) == 127) = false) (q6 : ((c.toNat : Int) == 21) = false) (q7 : ((c.toNat : Int) == 9) = false) (hq : ¬ (32 : Int) ≤ (c.toNat : Int) ∨ ((32 : Int) ≤ (c.toNat : Int) ∧ ¬ (c.toNat : Int) ≤ 126)) :
    Calls Try.prog 36 #[.pointer (some ⟨b, 0, none⟩), .int .u8 c.toNat] w fun e w' => e = .returned (.tuple #[]) ∧ RefTo w w' b S st := by
  have hf := rfull_any h hi
  have ha := hi.a
  have hb := hi.b
  have hll := len_le_wait st.lines
  have Hf := hide hf
  have Hi := hide hi
  clear h hf hi
  go_enter Try.func36, Try.ntmps36
  go_wp2_with fail
  go_at_call 38
  refine Hf.out.mono ?_
  rintro e w1 ⟨rfl, S1, h1, h2, h3⟩
  have H2 := hide h2
  have H3 := hide h3
  have H1 := hide h1
  obtain ⟨lv, h1, rfl⟩ := h1
  obtain ⟨a, cap, rfl, hlc, hcm⟩ := h1.own.form
  have c0 := h1.blk.cell 0
  have c1 := h1.blk.cell 1
  have c2 := h1.blk.cell 2
  have c3 := h1.blk.cell 3
  have z0 := h1.blk.frozen 0
  have z1 := h1.blk.frozen 1
  have z2 := h1.blk.frozen 2
  have z3 := h1.blk.frozen 3
  simp at c0 c1 c2 c3
  unfold maxLen at hcm
  have HA := hide h1
  clear h1 h2 h3
  rcases hq with q8 | ⟨q8, q9⟩
  all_goals
    go_wp2
    go_returns
    exact ⟨rfl, RefTo.then H2.out H3.out (RefTo.refl H1.out)⟩

set_option maxRecDepth 100000 in
set_option maxHeartbeats 2000000 in
theorem rone_put {b : Nat} {S : Nat → Prop} {st : TS} {w : World} (h : RefIs w b S st) (hi : st.Inv) (c : UInt8) (hsc : st.screen.length + 800 ≤ 1099511620000) (hroom : st.room = true) (hlen : st.typed.length < 256) (q1 : ((c.toNat : Int) == 10) = false) (q2 : ((c.toNat : Int) == 13) = false) (q3 : ((c.toNat : Int) == 4) = false) (q4 : ((c.toNat : Int) == 8) = false) (q5 : ((c.toNat : Int) == 127) = false) (q6 : ((c.toNat : Int) == 21) = false) (hq : ((c.toNat : Int) == 9) = true ∨ (((c.toNat : Int) == 9) = false ∧ (32 : Int) ≤ (c.toNat : Int) ∧ (c.toNat : Int) ≤ 126)) :
    Calls Try.prog 36 #[.pointer (some ⟨b, 0, none⟩), .int .u8 c.toNat] w fun e w' => e = .returned (.tuple #[]) ∧ RefTo w w' b S (st.put c) := by
  have hf := rfull_any h hi
  have ha := hi.a
  have hb := hi.b
  have hll := len_le_wait st.lines
  have hr : (!st.room) = false := by rw [hroom]; rfl
  rw [hr] at hf
  clear hr
  have hz1 : (ByteArray.mk st.typed.toArray).size ≤ 256 := by rw [arr_size]; omega
  have hz3 : (ByteArray.mk st.screen.toArray).size ≤ 1099511619200 := by rw [arr_size]; omega
  have Hf := hide hf
  have Hi := hide hi
  clear h hf hi
  go_enter Try.func36, Try.ntmps36
  go_wp2_with fail
  go_at_call 38
  refine Hf.out.mono ?_
  rintro e w1 ⟨rfl, S1, h1, h2, h3⟩
  have H2 := hide h2
  have H3 := hide h3
  have H1 := hide h1
  obtain ⟨lv, h1, rfl⟩ := h1
  obtain ⟨a, cap, rfl, hlc, hcm⟩ := h1.own.form
  have c0 := h1.blk.cell 0
  have c1 := h1.blk.cell 1
  have c2 := h1.blk.cell 2
  have c3 := h1.blk.cell 3
  have z0 := h1.blk.frozen 0
  have z1 := h1.blk.frozen 1
  have z2 := h1.blk.frozen 2
  have z3 := h1.blk.frozen 3
  simp at c0 c1 c2 c3
  unfold maxLen at hcm
  have HA := hide h1
  clear h1 h2 h3
  have qs : decide (256 ≤ st.typed.length) = false := by simp; omega
  have qs2 : decide ((256 : Int) ≤ (st.typed.length : Int)) = false := by simp; omega
  have hsz := arr_size st.typed
  have Hblt := hide HA.out.blk.lt
  obtain ⟨si, hsi⟩ : ∃ si, si = st.silent := ⟨_, rfl⟩
  rcases hq with q7 | ⟨q7, q8, q9⟩
  · go_wp2_with fail
    refine wp_region_perm [0, 1, 2, 3, 4, 5] [6, 7, 8, 9, 10, 11] (by kernel_rfl) (by kernel_rfl) (fun w' => w'.cell? ⟨b, 1, none⟩ = some (.string ⟨st.typed.toArray⟩)) c1 ?_
    simp only [pick, List.getElem?_cons_zero, List.getElem?_cons_succ]
    repeat
      refine wpTake_cons ?_ (by rfl) ?_ ?_
      rotate_left
      · (intro W hSW; (try dsimp only at hSW); go_simp; try with_reducible rfl)
      simp only [Act.put, List.setIfInBounds_toArray, List.set_cons_zero, List.set_cons_succ]
    refine wpTake_nil ?_
    refine wpForce_cons fun K1 hK1 => ?_
    refine step_val (.slice (some ⟨w1.heap.size, 0, none⟩) 1 1) (w1.drew.alloc (.cells #[.int .u8 c.toNat] 5)) (by rfl) (by go_simp) ?_
    refine hK1.out _ _ ((World.cell?_alloc_lt w1.drew _ _ (by exact Hblt.out)).trans c1) ?_
    simp only [Act.put, List.setIfInBounds_toArray, List.set_cons_zero, List.set_cons_succ]
    refine wpForce_cons fun K2 hK2 => ?_
    refine step_convert (.string ⟨#[c]⟩) (by exact run_str1 w1.drew c) ?_
    refine hK2.out _ _ ((World.cell?_alloc_lt w1.drew _ _ (by exact Hblt.out)).trans c1) ?_
    simp only [Act.put, List.setIfInBounds_toArray, List.set_cons_zero, List.set_cons_succ]
    refine wpForce_cons fun K3 hK3 => ?_
    refine step_concat ⟨st.typed.toArray⟩ ⟨#[c]⟩ (by rfl) (by rfl) (by show _ + 1 ≤ _; omega) ?_
    refine hK3.out _ _ ((World.cell?_alloc_lt w1.drew _ _ (by exact Hblt.out)).trans c1) ?_
    simp only [Act.put, List.setIfInBounds_toArray, List.set_cons_zero, List.set_cons_succ]
    refine wpForce_cons fun K4 hK4 => ?_
    refine step_val (.pointer (some ⟨b, 0, none⟩)) _ (by rfl) (by go_simp; try rfl) ?_
    refine hK4.out _ _ ((World.cell?_alloc_lt w1.drew _ _ (by exact Hblt.out)).trans c1) ?_
    simp only [Act.put, List.setIfInBounds_toArray, List.set_cons_zero, List.set_cons_succ]
    refine wpForce_cons fun K5 hK5 => ?_
    refine step_val (.pointer (some ⟨b, 1, none⟩)) _ (by rfl) (by go_simp; try rfl) ?_
    refine hK5.out _ _ ((World.cell?_alloc_lt w1.drew _ _ (by exact Hblt.out)).trans c1) ?_
    simp only [Act.put, List.setIfInBounds_toArray, List.set_cons_zero, List.set_cons_succ]
    refine wpForce_one ?_
    clear hK1 hK2 hK3 hK4 hK5
    have zA : (w1.alloc (.cells #[.int .u8 c.toNat] 5)).frozen? ⟨b, 1, none⟩ = false := (HA.out.blk.alloc _).frozen 1
    have cA : (w1.alloc (.cells #[.int .u8 c.toNat] 5)).cell? ⟨b, 1, none⟩ = some (.string ⟨st.typed.toArray⟩) := (World.cell?_alloc_lt w1 _ _ (by exact Hblt.out)).trans c1
    go_wp2
    refine NoPanic.normal ?_
    have hT3 : RefTo w1 (((w1.alloc (.cells #[.int .u8 c.toNat] 5)).setCell ⟨b, 1, none⟩ (.string (⟨st.typed.toArray⟩ ++ ⟨#[c]⟩))).drew) b (rOwn b (.slice a st.lines.length cap)) { st with typed := st.typed ++ [c] } :=
      (RefTo.alloc H1.out _).trans fun S2 h4 => (RefTo.set h4 1 (.string (⟨st.typed.toArray⟩ ++ ⟨#[c]⟩)) { st with typed := st.typed ++ [c] } rfl (fun _ => by rw [arr_app]; rfl)).trans fun S3 h5 => RefTo.drew h5
    generalize ((w1.alloc (.cells #[.int .u8 c.toNat] 5)).setCell ⟨b, 1, none⟩ (.string (⟨st.typed.toArray⟩ ++ ⟨#[c]⟩))).drew = w3 at hT3 ⊢
    obtain ⟨S3, k1, k2, k3⟩ := hT3
    obtain ⟨a3, cap3, d0, d1, d2, d3⟩ := k1.cells
    simp only at d3
    rw [← hsi] at d2
    have M1 := hide k1
    have M2 := hide k2
    have M3 := hide k3
    have Hbl3 := hide k1.blt
    clear zA cA k1 k2 k3 hz1
    clear Hblt
    have Hblt := Hbl3
    clear Hbl3 c0 c1 c2 c3 z0 z1 z2 z3 HA
    cases si
    · have Hsi := hide hsi
      clear hsi
      go_wp2_with fail
      refine wp_region_perm [0, 1, 2, 3, 4, 5] [6, 7, 8, 9, 10, 11] (by kernel_rfl) (by kernel_rfl) (fun w' => w'.cell? ⟨b, 3, none⟩ = some (.string ⟨st.screen.toArray⟩)) d3 ?_
      simp only [pick, List.getElem?_cons_zero, List.getElem?_cons_succ]
      repeat
        refine wpTake_cons ?_ (by rfl) ?_ ?_
        rotate_left
        · (intro W hSW; (try dsimp only at hSW); go_simp; try with_reducible rfl)
        simp only [Act.put, List.setIfInBounds_toArray, List.set_cons_zero, List.set_cons_succ]
      refine wpTake_nil ?_
      refine wpForce_cons fun K1 hK1 => ?_
      refine step_val (.slice (some ⟨w3.heap.size, 0, none⟩) 1 1) (w3.drew.alloc (.cells #[.int .u8 c.toNat] 5)) (by rfl) (by go_simp) ?_
      refine hK1.out _ _ ((World.cell?_alloc_lt w3.drew _ _ (by exact Hblt.out)).trans d3) ?_
      simp only [Act.put, List.setIfInBounds_toArray, List.set_cons_zero, List.set_cons_succ]
      refine wpForce_cons fun K2 hK2 => ?_
      refine step_convert (.string ⟨#[c]⟩) (by exact run_str1 w3.drew c) ?_
      refine hK2.out _ _ ((World.cell?_alloc_lt w3.drew _ _ (by exact Hblt.out)).trans d3) ?_
      simp only [Act.put, List.setIfInBounds_toArray, List.set_cons_zero, List.set_cons_succ]
      refine wpForce_cons fun K3 hK3 => ?_
      refine step_concat ⟨st.screen.toArray⟩ ⟨#[c]⟩ (by rfl) (by rfl) (by show _ + 1 ≤ _; omega) ?_
      refine hK3.out _ _ ((World.cell?_alloc_lt w3.drew _ _ (by exact Hblt.out)).trans d3) ?_
      simp only [Act.put, List.setIfInBounds_toArray, List.set_cons_zero, List.set_cons_succ]
      refine wpForce_cons fun K4 hK4 => ?_
      refine step_val (.pointer (some ⟨b, 0, none⟩)) _ (by rfl) (by go_simp; try rfl) ?_
      refine hK4.out _ _ ((World.cell?_alloc_lt w3.drew _ _ (by exact Hblt.out)).trans d3) ?_
      simp only [Act.put, List.setIfInBounds_toArray, List.set_cons_zero, List.set_cons_succ]
      refine wpForce_cons fun K5 hK5 => ?_
      refine step_val (.pointer (some ⟨b, 3, none⟩)) _ (by rfl) (by go_simp; try rfl) ?_
      refine hK5.out _ _ ((World.cell?_alloc_lt w3.drew _ _ (by exact Hblt.out)).trans d3) ?_
      simp only [Act.put, List.setIfInBounds_toArray, List.set_cons_zero, List.set_cons_succ]
      refine wpForce_one ?_
      clear hK1 hK2 hK3 hK4 hK5
      have zA : (w3.alloc (.cells #[.int .u8 c.toNat] 5)).frozen? ⟨b, 3, none⟩ = false := M1.out.free3 _
      have cA : (w3.alloc (.cells #[.int .u8 c.toNat] 5)).cell? ⟨b, 3, none⟩ = some (.string ⟨st.screen.toArray⟩) := (World.cell?_alloc_lt w3 _ _ (by exact Hblt.out)).trans d3
      go_wp2
      refine NoPanic.normal ?_
      go_wp2
      go_returns
      refine ⟨rfl, RefTo.then H2.out H3.out (RefTo.then M2.out M3.out ?_)⟩
      rw [show st.put c = { st with typed := st.typed ++ [c], screen := st.screen ++ [c] } from by unfold TS.put TS.show; rw [← Hsi.out]; rfl]
      exact (RefTo.alloc M1.out _).trans fun S4 h4 => (RefTo.set h4 3 (.string (⟨st.screen.toArray⟩ ++ ⟨#[c]⟩)) { st with typed := st.typed ++ [c], screen := st.screen ++ [c] } rfl (fun _ => by rw [arr_app]; rfl)).trans fun S5 h5 => RefTo.drew h5
    · have Hsi := hide hsi
      clear hsi
      go_wp2
      go_returns
      refine ⟨rfl, RefTo.then H2.out H3.out ⟨S3, ?_, M2.out, M3.out⟩⟩
      rw [show st.put c = { st with typed := st.typed ++ [c] } from by unfold TS.put TS.show; rw [← Hsi.out]; rfl]
      exact M1.out
  · go_wp2_with fail
    refine wp_region_perm [0, 1, 2, 3, 4, 5] [6, 7, 8, 9, 10, 11] (by kernel_rfl) (by kernel_rfl) (fun w' => w'.cell? ⟨b, 1, none⟩ = some (.string ⟨st.typed.toArray⟩)) c1 ?_
    simp only [pick, List.getElem?_cons_zero, List.getElem?_cons_succ]
    repeat
      refine wpTake_cons ?_ (by rfl) ?_ ?_
      rotate_left
      · (intro W hSW; (try dsimp only at hSW); go_simp; try with_reducible rfl)
      simp only [Act.put, List.setIfInBounds_toArray, List.set_cons_zero, List.set_cons_succ]
    refine wpTake_nil ?_
    refine wpForce_cons fun K1 hK1 => ?_
    refine step_val (.slice (some ⟨w1.heap.size, 0, none⟩) 1 1) (w1.drew.alloc (.cells #[.int .u8 c.toNat] 5)) (by rfl) (by go_simp) ?_
    refine hK1.out _ _ ((World.cell?_alloc_lt w1.drew _ _ (by exact Hblt.out)).trans c1) ?_
    simp only [Act.put, List.setIfInBounds_toArray, List.set_cons_zero, List.set_cons_succ]
    refine wpForce_cons fun K2 hK2 => ?_
    refine step_convert (.string ⟨#[c]⟩) (by exact run_str1 w1.drew c) ?_
    refine hK2.out _ _ ((World.cell?_alloc_lt w1.drew _ _ (by exact Hblt.out)).trans c1) ?_
    simp only [Act.put, List.setIfInBounds_toArray, List.set_cons_zero, List.set_cons_succ]
    refine wpForce_cons fun K3 hK3 => ?_
    refine step_concat ⟨st.typed.toArray⟩ ⟨#[c]⟩ (by rfl) (by rfl) (by show _ + 1 ≤ _; omega) ?_
    refine hK3.out _ _ ((World.cell?_alloc_lt w1.drew _ _ (by exact Hblt.out)).trans c1) ?_
    simp only [Act.put, List.setIfInBounds_toArray, List.set_cons_zero, List.set_cons_succ]
    refine wpForce_cons fun K4 hK4 => ?_
    refine step_val (.pointer (some ⟨b, 0, none⟩)) _ (by rfl) (by go_simp; try rfl) ?_
    refine hK4.out _ _ ((World.cell?_alloc_lt w1.drew _ _ (by exact Hblt.out)).trans c1) ?_
    simp only [Act.put, List.setIfInBounds_toArray, List.set_cons_zero, List.set_cons_succ]
    refine wpForce_cons fun K5 hK5 => ?_
    refine step_val (.pointer (some ⟨b, 1, none⟩)) _ (by rfl) (by go_simp; try rfl) ?_
    refine hK5.out _ _ ((World.cell?_alloc_lt w1.drew _ _ (by exact Hblt.out)).trans c1) ?_
    simp only [Act.put, List.setIfInBounds_toArray, List.set_cons_zero, List.set_cons_succ]
    refine wpForce_one ?_
    clear hK1 hK2 hK3 hK4 hK5
    have zA : (w1.alloc (.cells #[.int .u8 c.toNat] 5)).frozen? ⟨b, 1, none⟩ = false := (HA.out.blk.alloc _).frozen 1
    have cA : (w1.alloc (.cells #[.int .u8 c.toNat] 5)).cell? ⟨b, 1, none⟩ = some (.string ⟨st.typed.toArray⟩) := (World.cell?_alloc_lt w1 _ _ (by exact Hblt.out)).trans c1
    go_wp2
    refine NoPanic.normal ?_
    have hT3 : RefTo w1 (((w1.alloc (.cells #[.int .u8 c.toNat] 5)).setCell ⟨b, 1, none⟩ (.string (⟨st.typed.toArray⟩ ++ ⟨#[c]⟩))).drew) b (rOwn b (.slice a st.lines.length cap)) { st with typed := st.typed ++ [c] } :=
      (RefTo.alloc H1.out _).trans fun S2 h4 => (RefTo.set h4 1 (.string (⟨st.typed.toArray⟩ ++ ⟨#[c]⟩)) { st with typed := st.typed ++ [c] } rfl (fun _ => by rw [arr_app]; rfl)).trans fun S3 h5 => RefTo.drew h5
    generalize ((w1.alloc (.cells #[.int .u8 c.toNat] 5)).setCell ⟨b, 1, none⟩ (.string (⟨st.typed.toArray⟩ ++ ⟨#[c]⟩))).drew = w3 at hT3 ⊢
    obtain ⟨S3, k1, k2, k3⟩ := hT3
    obtain ⟨a3, cap3, d0, d1, d2, d3⟩ := k1.cells
    simp only at d3
    rw [← hsi] at d2
    have M1 := hide k1
    have M2 := hide k2
    have M3 := hide k3
    have Hbl3 := hide k1.blt
    clear zA cA k1 k2 k3 hz1
    clear Hblt
    have Hblt := Hbl3
    clear Hbl3 c0 c1 c2 c3 z0 z1 z2 z3 HA
    cases si
    · have Hsi := hide hsi
      clear hsi
      go_wp2_with fail
      refine wp_region_perm [0, 1, 2, 3, 4, 5] [6, 7, 8, 9, 10, 11] (by kernel_rfl) (by kernel_rfl) (fun w' => w'.cell? ⟨b, 3, none⟩ = some (.string ⟨st.screen.toArray⟩)) d3 ?_
      simp only [pick, List.getElem?_cons_zero, List.getElem?_cons_succ]
      repeat
        refine wpTake_cons ?_ (by rfl) ?_ ?_
        rotate_left
        · (intro W hSW; (try dsimp only at hSW); go_simp; try with_reducible rfl)
        simp only [Act.put, List.setIfInBounds_toArray, List.set_cons_zero, List.set_cons_succ]
      refine wpTake_nil ?_
      refine wpForce_cons fun K1 hK1 => ?_
      refine step_val (.slice (some ⟨w3.heap.size, 0, none⟩) 1 1) (w3.drew.alloc (.cells #[.int .u8 c.toNat] 5)) (by rfl) (by go_simp) ?_
      refine hK1.out _ _ ((World.cell?_alloc_lt w3.drew _ _ (by exact Hblt.out)).trans d3) ?_
      simp only [Act.put, List.setIfInBounds_toArray, List.set_cons_zero, List.set_cons_succ]
      refine wpForce_cons fun K2 hK2 => ?_
      refine step_convert (.string ⟨#[c]⟩) (by exact run_str1 w3.drew c) ?_
      refine hK2.out _ _ ((World.cell?_alloc_lt w3.drew _ _ (by exact Hblt.out)).trans d3) ?_
      simp only [Act.put, List.setIfInBounds_toArray, List.set_cons_zero, List.set_cons_succ]
      refine wpForce_cons fun K3 hK3 => ?_
      refine step_concat ⟨st.screen.toArray⟩ ⟨#[c]⟩ (by rfl) (by rfl) (by show _ + 1 ≤ _; omega) ?_
      refine hK3.out _ _ ((World.cell?_alloc_lt w3.drew _ _ (by exact Hblt.out)).trans d3) ?_
      simp only [Act.put, List.setIfInBounds_toArray, List.set_cons_zero, List.set_cons_succ]
      refine wpForce_cons fun K4 hK4 => ?_
      refine step_val (.pointer (some ⟨b, 0, none⟩)) _ (by rfl) (by go_simp; try rfl) ?_
      refine hK4.out _ _ ((World.cell?_alloc_lt w3.drew _ _ (by exact Hblt.out)).trans d3) ?_
      simp only [Act.put, List.setIfInBounds_toArray, List.set_cons_zero, List.set_cons_succ]
      refine wpForce_cons fun K5 hK5 => ?_
      refine step_val (.pointer (some ⟨b, 3, none⟩)) _ (by rfl) (by go_simp; try rfl) ?_
      refine hK5.out _ _ ((World.cell?_alloc_lt w3.drew _ _ (by exact Hblt.out)).trans d3) ?_
      simp only [Act.put, List.setIfInBounds_toArray, List.set_cons_zero, List.set_cons_succ]
      refine wpForce_one ?_
      clear hK1 hK2 hK3 hK4 hK5
      have zA : (w3.alloc (.cells #[.int .u8 c.toNat] 5)).frozen? ⟨b, 3, none⟩ = false := M1.out.free3 _
      have cA : (w3.alloc (.cells #[.int .u8 c.toNat] 5)).cell? ⟨b, 3, none⟩ = some (.string ⟨st.screen.toArray⟩) := (World.cell?_alloc_lt w3 _ _ (by exact Hblt.out)).trans d3
      go_wp2
      refine NoPanic.normal ?_
      go_wp2
      go_returns
      refine ⟨rfl, RefTo.then H2.out H3.out (RefTo.then M2.out M3.out ?_)⟩
      rw [show st.put c = { st with typed := st.typed ++ [c], screen := st.screen ++ [c] } from by unfold TS.put TS.show; rw [← Hsi.out]; rfl]
      exact (RefTo.alloc M1.out _).trans fun S4 h4 => (RefTo.set h4 3 (.string (⟨st.screen.toArray⟩ ++ ⟨#[c]⟩)) { st with typed := st.typed ++ [c], screen := st.screen ++ [c] } rfl (fun _ => by rw [arr_app]; rfl)).trans fun S5 h5 => RefTo.drew h5
    · have Hsi := hide hsi
      clear hsi
      go_wp2
      go_returns
      refine ⟨rfl, RefTo.then H2.out H3.out ⟨S3, ?_, M2.out, M3.out⟩⟩
      rw [show st.put c = { st with typed := st.typed ++ [c] } from by unfold TS.put TS.show; rw [← Hsi.out]; rfl]
      exact M1.out


end Go.Proofs.Ytpabcopkecgphaa
