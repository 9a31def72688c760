/- The builder's String; all nodes print. -/
import Derived.Test.YtdhfhphbkfgamaaTN
namespace Go.Proofs.Ytdhfhphbkfgamaa
open Go.RowKit Lx Go.Shelf
set_option maxRecDepth 100000

theorem cells_byte : Try.prog.cellsOf 5 = 1 := by kernel_rfl
theorem us_none (W : World) (q : Option Addr) : (Builtin.unsafeString_ #[81, 3] 9 #[.pointer q, .int .i64 0]).run Try.prog W = .ok (.string .empty) W := Lib.run_unsafeString_none W _ _ _ q
set_option maxHeartbeats 2000000 in
theorem bstr_nil (B pb : Nat) (v p : Value) (w : World) (hbk : Blk w pb 55 #[v, p, .slice none 0 0]) :
    Calls Try.prog 16 #[selfP pb] w fun e w' => e = .returned (.string ⟨#[]⟩) ∧ Below B w w' := by
  have hUS := us_none
  have c1 : w.drew.cell? ⟨pb, 2, none⟩ = some (.slice none 0 0) := Blk.cell hbk 2
  have hSD : (Builtin.unsafeSliceData_ #[30] 81 #[.slice none 0 0]).run Try.prog w.drew = .ok (.pointer none) w.drew := rfl
  clear hbk
  have mixed : Try.prog.follows .mixedOrders = true := by kernel_rfl
  unfold selfP
  go_enter Try.func16, Try.ntmps16
  go_wp2
  go_region_o
  all_goals (go_wp2; go_ret; exact ⟨rfl, Below.drew (Below.refl B w)⟩)
set_option maxHeartbeats 2000000 in
theorem bstr_noroom (B pb g : Nat) (v p : Value) (cur : Array Value) (w : World) (hBw : B ≤ w.heap.size) (hbk : Blk w pb 55 #[v, p, .slice (some ⟨g, 0, none⟩) 0 0]) (hg : w.heap[g]? = some (.cells cur 5 (0, 0))) :
    Calls Try.prog 16 #[selfP pb] w fun e w' => e = .returned (.string ⟨#[]⟩) ∧ Below B w w' := by
  have hUS := us_none
  have hlt := Blk.lt hbk
  have c1 : w.drew.cell? ⟨pb, 2, none⟩ = some (.slice (some ⟨g, 0, none⟩) 0 0) := Blk.cell hbk 2
  have hSD : (Builtin.unsafeSliceData_ #[30] 81 #[.slice (some ⟨g, 0, none⟩) 0 0]).run Try.prog w.drew = .ok (.pointer (some ⟨w.drew.heap.size, 0, none⟩)) (w.drew.alloc (.view ⟨g, 0, none⟩ 5)) :=
    Lib.run_unsafeSliceData_zero w.drew _ _ 5 Try.underlying81 ⟨g, 0, none⟩ 0 (5, cur.size) (by have hg' : w.drew.heap[g]? = some (.cells cur 5 (0, 0)) := hg; simp [World.shape?, hg'])
  have c2 : (w.drew.alloc (.view ⟨g, 0, none⟩ 5)).cell? ⟨pb, 2, none⟩ = some (.slice (some ⟨g, 0, none⟩) 0 0) := by
    have : (w.drew.alloc (.view ⟨g, 0, none⟩ 5)).heap[pb]? = _ := (Lib.alloc_old w.drew _ pb hlt).trans hbk
    rw [Lib.cell_of_heap this]; rfl
  have c3 : (w.alloc (.view ⟨g, 0, none⟩ 5)).drew.cell? ⟨pb, 2, none⟩ = some (.slice (some ⟨g, 0, none⟩) 0 0) := c2
  have c0 : w.cell? ⟨pb, 2, none⟩ = some (.slice (some ⟨g, 0, none⟩) 0 0) := c1
  clear hbk hg
  have mixed : Try.prog.follows .mixedOrders = true := by kernel_rfl
  unfold selfP
  go_enter Try.func16, Try.ntmps16
  go_wp2
  go_region_o
  all_goals (go_wp2; go_ret; exact ⟨rfl, (Below.drew (Below.refl B w)).alloc hBw _⟩)
set_option maxHeartbeats 2000000 in
theorem bstr_room (B pb g cap : Nat) (v p : Value) (w : World) (hc0 : cap ≠ 0) (hbk : Blk w pb 55 #[v, p, .slice (some ⟨g, 0, none⟩) 0 cap]) :
    Calls Try.prog 16 #[selfP pb] w fun e w' => e = .returned (.string ⟨#[]⟩) ∧ Below B w w' := by
  have hUS := us_none
  have c1 : w.drew.cell? ⟨pb, 2, none⟩ = some (.slice (some ⟨g, 0, none⟩) 0 cap) := Blk.cell hbk 2
  have hSD : (Builtin.unsafeSliceData_ #[30] 81 #[.slice (some ⟨g, 0, none⟩) 0 cap]).run Try.prog w.drew = .ok (.pointer (some ⟨g, 0, none⟩)) w.drew :=
    Lib.run_unsafeSliceData_row _ _ _ _ _ _ hc0
  clear hbk hc0
  have mixed : Try.prog.follows .mixedOrders = true := by kernel_rfl
  unfold selfP
  go_enter Try.func16, Try.ntmps16
  go_wp2
  go_region_o
  all_goals (go_wp2; go_ret; exact ⟨rfl, Below.drew (Below.refl B w)⟩)
set_option maxHeartbeats 2000000 in
theorem bstr_some (B pb : Nat) (v p buf : Value) (l : List UInt8) (w : World) (h : PrAt B w pb v p buf l) (h0 : l ≠ []) :
    Calls Try.prog 16 #[selfP pb] w fun e w' => e = .returned (.string ⟨l.toArray⟩) ∧ Below B w w' := by
  have hown := h.own
  have hbk := h.blk
  have hl0 : l.length ≠ 0 := by simpa using h0
  obtain ⟨g, cap, cur, rfl, hbg, hg, hnc, hcm, hcs, htake⟩ : ∃ g cap cur, buf = .slice (some ⟨g, 0, none⟩) l.length cap ∧ B ≤ g ∧ w.heap[g]? = some (.cells cur 5 (0, 0)) ∧ l.length ≤ cap ∧ cap ≤ maxLen ∧ cur.size = cap * 1 ∧ cur.toList.take (l.length * 1) = Lib.byteCells l := by
    rcases hown.2 with ⟨_, hz⟩ | ⟨g, cap, cur, hv, r⟩
    · exact absurd hz hl0
    · exact ⟨g, cap, cur, hv, r⟩
  have c1 : w.drew.cell? ⟨pb, 2, none⟩ = some (.slice (some ⟨g, 0, none⟩) l.length cap) := Blk.cell hbk 2
  have hSD : (Builtin.unsafeSliceData_ #[30] 81 #[.slice (some ⟨g, 0, none⟩) l.length cap]).run Try.prog w.drew = .ok (.pointer (some ⟨g, 0, none⟩)) w.drew :=
    Lib.run_unsafeSliceData_row _ _ _ _ _ _ (by omega)
  have hUS : (Builtin.unsafeString_ #[81, 3] 9 #[.pointer (some ⟨g, 0, none⟩), .int .i64 l.length]).run Try.prog w.drew = .ok (.string ⟨l.toArray⟩) (w.drew.freeze ⟨g, 0, none⟩ l.length) := by
    refine Lib.run_unsafeString_row w.drew 81 3 9 5 Try.underlying81 cells_byte g cur.size (by have hg' : w.drew.heap[g]? = some (.cells cur 5 (0, 0)) := hg; simp [World.shape?, hg']) l h0 (by omega) (by unfold maxLen at hcm; omega) ?_
    intro j x hx
    have := hown.cells (g := g) rfl j (.int .u8 x.toNat) (by simp [Lib.byteCells, hx])
    exact this
  clear hown hbk h
  have mixed : Try.prog.follows .mixedOrders = true := by kernel_rfl
  unfold selfP
  go_enter Try.func16, Try.ntmps16
  go_wp2
  go_region_o
  all_goals (go_wp2; go_ret; exact ⟨rfl, Lib.below_freeze (Below.drew (Below.refl B w)) (p := ⟨g, 0, none⟩) hbg _⟩)
theorem bstr_any (B pb : Nat) (l : List Nd) (b : List UInt8) (w : World) (h : PrIs B w pb l b) : Calls Try.prog 16 #[selfP pb] w fun e w' => e = .returned (sv b) ∧ Below B w w' := by
  obtain ⟨v, p, buf, hA, _, _, _⟩ := h
  by_cases h0 : b = []
  · subst h0
    have hbk := hA.blk
    have hlt := hA.lt
    rcases hA.own.2 with ⟨rfl, _⟩ | ⟨g, cap, cur, rfl, hbg, hg, _⟩
    · exact bstr_nil B pb v p w hbk
    · by_cases hc0 : cap = 0
      · subst hc0
        exact bstr_noroom B pb g v p cur w hlt hbk hg
      · exact bstr_room B pb g cap v p w hc0 hbk
  · exact bstr_some B pb v p buf b w hA h0
theorem nodes_ok (n0 pb : Nat) (l : List Nd) (hcy : Cy l) : ∀ f, NodeOk n0 pb l (nodeE l f) (min f l.length)
  | 0 => fun i hi => by omega
  | f + 1 => fun i hi b w h => node_step n0 pb f l hcy (nodes_ok n0 pb l hcy f) i hi b w h

end Go.Proofs.Ytdhfhphbkfgamaa
