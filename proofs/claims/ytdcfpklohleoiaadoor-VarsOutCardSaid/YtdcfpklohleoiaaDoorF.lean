/- fixed, one. -/
import Derived.Test.YtdcfpklohleoiaaDoorE
namespace Go.Proofs.YtdcfpklohleoiaaDoor
open Go.RowKit Go.Lib
set_option maxRecDepth 100000

theorem res27 {w : World} {b : Nat} {x y z : Value} (h : Blk w b 27 #[x, y, z]) : w.cell? ⟨b, 0, none⟩ = some x ∧ w.cell? ⟨b, 1, none⟩ = some y ∧ w.cell? ⟨b, 2, none⟩ = some z := ⟨Blk.cell h 0, Blk.cell h 1, Blk.cell h 2⟩
theorem Own.alloc2 {w : World} {e : TypeId} {size n k : Nat} {v : Value} {xs : List Value} (h : Own w e size v n xs k) (o o' : Obj) : Own ((w.alloc o).alloc o') e size v n xs k := (h.alloc o).alloc o'

set_option maxHeartbeats 2000000 in
theorem fixed_any (vs : List V) (m : List UInt8) (v : Value) (w : World) (hw : WF vs) (ho : Own w 35 4 v vs.length (vcs vs) 0) :
    Calls Tryd.prog 32 #[envV v, sv m] w fun e w' => e = .returned (.bool (lookV vs m).r) ∧ w.grownBy w' none := by
  have hl := hw.len
  have Hf := hide (fun W (hW : Own W 35 4 v vs.length (vcs vs) 0) => find_any vs m v W hw.srt (by omega) hW)
  have HO := hide ho
  obtain ⟨a, cap, rfl, _, _⟩ := ho.form
  unfold sv envV at Hf
  cases hf : foundB vs m with
  | false =>
    have hr : (lookV vs m).r = false := by rw [(put_new hw.srt m hf).1]
    rw [hr, ]
    have Hf := hide (fun W hW => by have := Hf.out W hW; rw [hf] at this; exact this)
    clear ho hf hr
    unfold sv envV
    go_enter Tryd.func32, Tryd.ntmps32
    go_wp2_with fail
    refine (Hf.out _ (HO.out.alloc _)).mono ?_
    rintro e w1 ⟨rfl, g1⟩
    go_wp2_with fail
    go_ret
    exact ⟨rfl, none_trans (only_alloc (only_refl w none) _) g1⟩
  | true =>
    obtain ⟨_, hidx, hat⟩ := put_same hw.srt m hf
    have Hf := hide (fun W hW => by have := Hf.out W hW; rw [hf] at this; exact this)
    obtain ⟨g, off, cap2, hv, _, hg, hcs⟩ := v_cells ho (by omega)
    injection hv with hv1 hv2 hv3
    subst hv1; subst hv3
    obtain ⟨c0, c1, c2, c3⟩ := hcs _ hidx
    rw [hat] at c0 c1 c2 c3
    obtain ⟨r, hr⟩ : ∃ r, (lookV vs m).r = r := ⟨_, rfl⟩
    rw [hr] at c3 ⊢
    obtain ⟨ix, hix⟩ : ∃ ix, idxF m vs = ix := ⟨_, rfl⟩
    have Hf := hide (fun W hW => by have := Hf.out W hW; rw [hix] at this; exact this)
    rw [hix] at c3 hidx
    have hib : (0 : Int) ≤ ix ∧ (ix : Int) < (vs.length : Int) := by omega
    have C3 := hide c3
    clear ho hf hr hcs hat c0 c1 c2 c3 hix
    unfold sv envV
    go_enter Tryd.func32, Tryd.ntmps32
    go_wp2_with fail
    refine (Hf.out _ (HO.out.alloc _)).mono ?_
    rintro e w1 ⟨rfl, g1⟩
    have hG := none_trans (only_alloc (only_refl w none) (.cells #[.slice (some ⟨g, off, none⟩) vs.length cap, .slice none 0 0, .string ⟨#[]⟩] 27)) g1
    have c3 := old_cell hG hg C3.out
    obtain ⟨d0, d1, d2⟩ := res27 (Blk.grown (Blk.new w 27 #[.slice (some ⟨g, off, none⟩) vs.length cap, .slice none 0 0, .string ⟨#[]⟩]) g1 (by simp))
    have hg1 : g < w1.heap.size := Nat.lt_of_lt_of_le hg hG.size
    have HG := hide hG
    clear hG g1
    go_wp2_with fail
    go_ret
    exact ⟨rfl, HG.out⟩

/-- The env with the name in it, its vars the call's own, and where the name's var lies. -/
def OnePost (w : World) (vs : List V) (m : List UInt8) (e : Ending) (w' : World) : Prop := ∃ g off cap, e = .returned (.tuple #[envV (.slice (some ⟨g, off, none⟩) (putF vs (lookV vs m)).length cap), .pointer (some ⟨g, off + idxF m vs * 4, none⟩), .int .i64 0]) ∧ Own w' 35 4 (.slice (some ⟨g, off, none⟩) (putF vs (lookV vs m)).length cap) (putF vs (lookV vs m)).length (vcs (putF vs (lookV vs m))) 0 ∧ w.heap.size ≤ g ∧ w.grownBy w' none

set_option maxHeartbeats 2000000 in
theorem one_full (vs : List V) (m : List UInt8) (v : Value) (w : World) (hw : WF vs) (ho : Own w 35 4 v vs.length (vcs vs) 0) (hf : foundB vs m = false) (h40 : 40 ≤ vs.length) :
    Calls Tryd.prog 33 #[envV v, sv m] w fun e w' => e = .returned (.tuple #[envV v, .pointer none, .int .i64 9]) ∧ w.grownBy w' none := by
  have hl := hw.len
  have Hf := hide (fun W (hW : Own W 35 4 v vs.length (vcs vs) 0) => find_any vs m v W hw.srt (by omega) hW)
  have HO := hide ho
  obtain ⟨a, cap, rfl, _, _⟩ := ho.form
  unfold sv envV at Hf
  have Hf := hide (fun W hW => by have := Hf.out W hW; rw [hf] at this; exact this)
  have q4 : decide ((40 : Int) ≤ (vs.length : Int)) = true := decide_eq_true (by omega)
  clear ho hf
  unfold sv envV
  go_enter Tryd.func33, Tryd.ntmps33
  go_wp2_with fail
  refine (Hf.out _ (HO.out.alloc2 _ _)).mono ?_
  rintro e w1 ⟨rfl, g1⟩
  have hG := none_trans (only_alloc (only_alloc (only_refl w none) (.cells #[.slice a vs.length cap, .slice none 0 0, .string ⟨#[]⟩] 27)) (.cells #[.slice none 0 0, .slice none 0 0, .string ⟨#[]⟩] 27)) g1
  have hb2 := Blk.grown ((Blk.new w 27 #[.slice a vs.length cap, .slice none 0 0, .string ⟨#[]⟩]).alloc (.cells #[.slice none 0 0, .slice none 0 0, .string ⟨#[]⟩] 27)) g1 (by simp)
  have hb4 := Blk.grown (Blk.new (w.alloc (.cells #[.slice a vs.length cap, .slice none 0 0, .string ⟨#[]⟩] 27)) 27 #[.slice none 0 0, .slice none 0 0, .string ⟨#[]⟩]) g1 (by simp)
  rw [World.size_alloc] at hb4
  have HB4 := hide hb4
  obtain ⟨d0, d1, d2⟩ := res27 hb2
  obtain ⟨e0, e1, e2⟩ := res27 hb4
  have z0 := Blk.frozen hb4 0
  have z1 := Blk.frozen hb4 1
  have z2 := Blk.frozen hb4 2
  have lb2 := Blk.lt hb2
  have lb4 := Blk.lt hb4
  have HG := hide hG
  clear hG g1 hb2 hb4
  go_wp2_with fail
  have hf := ((Blk.set_ HB4.out 0 (.slice a vs.length cap)).set_ 1 (.slice none 0 0)).set_ 2 (.string ⟨#[]⟩)
  have hg := none_setCell (none_setCell (none_setCell HG.out (p := ⟨w.heap.size + 1, 0, none⟩) (by show w.heap.size ≤ w.heap.size + 1; omega) (.slice a vs.length cap)) (p := ⟨w.heap.size + 1, 1, none⟩) (by show w.heap.size ≤ w.heap.size + 1; omega) (.slice none 0 0)) (p := ⟨w.heap.size + 1, 2, none⟩) (by show w.heap.size ≤ w.heap.size + 1; omega) (.string ⟨#[]⟩)
  generalize ((w1.setCell ⟨w.heap.size + 1, 0, none⟩ (.slice a vs.length cap)).setCell ⟨w.heap.size + 1, 1, none⟩ (.slice none 0 0)).setCell ⟨w.heap.size + 1, 2, none⟩ (.string ⟨#[]⟩) = W at hf hg ⊢
  obtain ⟨f0, f1, f2⟩ := res27 hf
  exact bodyPost_ret (v := .tuple #[.agg #[.slice a vs.length cap, .slice none 0 0, .string ⟨#[]⟩], .pointer none, .int .i64 9]) (by simp [results, Tryd.results33, go_sem, f0, f1, f2]) rfl ⟨rfl, hg⟩

end Go.Proofs.YtdcfpklohleoiaaDoor
