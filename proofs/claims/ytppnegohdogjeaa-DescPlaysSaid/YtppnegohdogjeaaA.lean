/- Rows of numbers as they lie in memory; the walks of with, Put, At, Close, To and of the reference's; Same, plain. -/
import Derived.Test.YtppnegohdogjeaaArgs
import Derived.Test.YtppnegohdogjeaaStep
import Derived.Laws.CopyOwn
namespace Go.Proofs.Ytppnegohdogjeaa
open Go.RowKit

def icells (xs : List Int) : List Value := xs.map (Value.int .i64)
theorem icells_length (xs : List Int) : (icells xs).length = xs.length := by simp [icells]
theorem icells_one (xs : List Int) : ∀ u ∈ icells xs, u.oneCell' = true := by
  intro u hu
  obtain ⟨_, _, rfl⟩ := List.mem_map.1 hu
  rfl
theorem info3 : (Try.prog.info? 3).map (fun i => (i.zero, i.size, i.bytes)) = some (some (.int .i64 0), 1, 8) := by kernel_rfl

/-- A slice that reads as a list, in blocks below B. -/
def Rd (w : World) (B : Nat) (v : Value) (xs : List Int) : Prop :=
  B ≤ w.heap.size ∧ ∃ a cap, v = .slice a xs.length cap ∧ xs.length ≤ cap ∧ cap ≤ maxLen ∧ ∀ i (h : i < xs.length), ∃ b off, a = some ⟨b, off, none⟩ ∧ b < B ∧ w.cell? ⟨b, off + i, none⟩ = some (.int .i64 xs[i])

section
variable {w w' : World} {B : Nat} {v : Value} {xs : List Int}
theorem Rd.keep (h : Rd w B v xs) (hk : ∀ k, k < B → w'.heap[k]? = w.heap[k]?) (hs : w.heap.size ≤ w'.heap.size) : Rd w' B v xs := by
  obtain ⟨hB, a, cap, e, h1, h2, h3⟩ := h
  refine ⟨by omega, a, cap, e, h1, h2, fun i hi => ?_⟩
  obtain ⟨b, off, e1, e2, e3⟩ := h3 i hi
  exact ⟨b, off, e1, e2, (World.cell?_of_block (hk b e2)).trans e3⟩
theorem Rd.below (h : Rd w B v xs) (hb : Below B w w') : Rd w' B v xs := h.keep hb.block hb.size
theorem Rd.gr (h : Rd w B v xs) (hg : w.grownBy w' none) : Rd w' B v xs := h.keep (fun k hk => hg.block k (Nat.lt_of_lt_of_le hk h.1) (by simp)) hg.size
theorem Rd.nil (w : World) (B : Nat) (hB : B ≤ w.heap.size) : Rd w B (.slice none 0 0) [] := ⟨hB, none, 0, rfl, Nat.le_refl _, by decide, fun i hi => absurd hi (by simp)⟩
theorem Rd.of_own (h : Own w 3 1 v xs.length (icells xs) 0) : Rd w w.heap.size v xs := by
  obtain ⟨a, cap, rfl, h1, h2⟩ := h.form
  refine ⟨Nat.le_refl _, a, cap, rfl, h1, h2, fun i hi => ?_⟩
  obtain ⟨g, off, cap', e, _, _, hlt, hc⟩ := h.some_ (by omega)
  injection e with e1 _ _
  refine ⟨g, off, e1, hlt, (hc i (by omega)).trans ?_⟩
  simp [icells, hi]
theorem Rd.src (h : Rd w B v xs) : Src Try.prog 1 22 v xs.length (icells xs) w := by
  obtain ⟨hB, a, cap, rfl, h1, h2, h3⟩ := h
  cases xs with
  | nil => cases a with
    | none => exact Src.ofNil w (e' := 3) (by kernel_rfl) _
    | some a => exact Src.ofSlice w (e' := 3) (by kernel_rfl) _ _ _ [] rfl (fun j u hu => by simp at hu) (icells_one [])
  | cons x r =>
    obtain ⟨b, off, rfl, _, _⟩ := h3 0 (by simp)
    refine Src.ofSlice w (e' := 3) (by kernel_rfl) _ _ _ (icells (x :: r)) (by simp [icells]) (fun j u hu => ?_) (icells_one _)
    have hj : j < (x :: r).length := by
      have := (List.getElem?_eq_some_iff.1 hu).1
      simpa [icells] using this
    obtain ⟨b', off', e1, _, e3⟩ := h3 j hj
    injection e1 with e1
    injection e1 with e1 e2 _
    subst e1 e2
    rw [Addr.add_lit, e3]
    rw [← hu]
    simp only [icells, List.getElem?_map]
    rw [List.getElem?_eq_getElem hj]
    rfl
end

/-- A row just made. -/
structure Made (w w' : World) (v : Value) (xs : List Int) : Prop where
  own : Own w' 3 1 v xs.length (icells xs) 0
  new : ∀ b, v.ownBlock = some b → w.heap.size ≤ b
  grown : w.grownBy w' none
theorem Made.nil (w : World) : Made w w (.slice none 0 0) [] := ⟨Own.nil _ _ _ _, by simp [Value.ownBlock], only_refl _ _⟩
theorem Made.rd {w w' : World} {v : Value} {xs : List Int} (h : Made w w' v xs) : Rd w' w'.heap.size v xs := Rd.of_own h.own

theorem icells_set (xs : List Int) (i : Nat) (n : Int) : (icells xs).set i (.int .i64 n) = icells (xs.set i n) := by simp [icells, List.map_set]

theorem Made.of_own {w w2 : World} {v : Value} {xs : List Int} (ho : Own w2 3 1 v xs.length (icells xs) 0) (hn : ∀ b, v.ownBlock = some b → w.heap.size ≤ b) (hg : w.grownBy w2 none) : Made w w2 v xs := ⟨ho, hn, hg⟩

/-- A place of a row of one's own gets another number. -/
theorem Made.set {w w2 : World} {v : Value} {xs : List Int} (h : Made w w2 v xs) (i : Nat) (hi : i < xs.length) (n : Int) :
    ∃ g off cap, v = .slice (some ⟨g, off, none⟩) xs.length cap ∧ xs.length ≤ cap ∧ cap ≤ maxLen ∧ w2.cell? ⟨g, off + i, none⟩ = some (.int .i64 xs[i]) ∧ w2.frozen? ⟨g, off + i, none⟩ = false ∧ Made w (w2.setCell ⟨g, off + i, none⟩ (.int .i64 n)) v (xs.set i n) := by
  obtain ⟨g, off, cap, rfl, h1, h2, hlt, hc⟩ := h.own.some_ (by omega)
  refine ⟨g, off, cap, rfl, h1, h2, (hc i (by omega)).trans (by simp [icells, hi]), h.own.frozen0 i, ?_, h.new, none_setCell h.grown (h.new g rfl) _⟩
  rw [List.length_set, ← icells_set]
  exact h.own.set i (by omega) _

/-- The reference's with. -/
def RowPost (w : World) (xs : List Int) (e : Ending) (w' : World) : Prop := ∃ v', e = .returned v' ∧ Made w w' v' xs
set_option maxHeartbeats 400000 in
theorem rwith_any (v : Value) (xs : List Int) (i : Nat) (n : Int) (B : Nat) (w : World) (hr : Rd w B v xs) (hi : i < xs.length) (hx : xs.length ≤ 4096) :
    Calls Try.prog 34 #[v, .int .i64 i, .int .i64 n] w (RowPost w (xs.set i n)) := by
  have hsrc := hide ((hr.gr (only_alloc (only_refl w none) (.cells #[] 3))).src)
  clear hr
  go_enter Try.func34, Try.ntmps34
  go_wp2_with (at_builtin; refine wpList_appAt 3 (.int .i64 0) 1 8 (by kernel_rfl) info3 rfl (.slice (some ⟨w.heap.size, 0, none⟩) 0 0) 0 [] 0 v xs.length (icells xs) rfl rfl (Own.made w #[] 3 1 0 0 rfl (by decide)) (by omega) hsrc.out (by unfold maxLen; omega) (by omega) ?_)
  intro v' w2 ho hc hn _
  have hm : Made w w2 v' xs := by
    refine ⟨by simpa using ho, fun b hb => ?_, ?_⟩
    · rcases hn b hb with h | h
      · simp [Value.ownBlock] at h; omega
      · rw [World.size_alloc] at h; omega
    · exact (((Chg.refl nobody w).alloc (.cells #[] 3)).trans hc (fun i hi e => by simp [Value.ownBlock] at e; omega)).grown (fun _ _ e => e)
  obtain ⟨g, off, cap, rfl, h1, h2, h3, h4, h5⟩ := hm.set i hi n
  unfold maxLen at h2
  have H5 := hide h5
  clear h5 hm ho hc hn hsrc
  go_wp2
  go_ret
  exact ⟨_, rfl, H5.out⟩

theorem run_make_rowN {P : Program} (t e : TypeId) (i : TypeInfo) (z : Value) (ht : P.underlying t = some (.slice e)) (hi : P.info? e = some i) (hz : i.zero = some z)
    (kl kc : IntKind) (n c : Nat) (hnc : n ≤ c) (hbytes : i.bytes * c ≤ 281474976710656) (h63 : c ≤ 9223372036854775807) (w : World) :
    (Instr.makeSlice t (.int kl (n : Int)) (.int kc (c : Int))).run P w = .ok (.slice (some ⟨w.heap.size, 0, none⟩) n c) (w.alloc (.cells (madeCells z.cells (c * i.size)) e)) := by
  have hb : (i.bytes : Int) * (c : Int) ≤ 281474976710656 := by
    have h : ((i.bytes * c : Nat) : Int) ≤ 281474976710656 := by omega
    rwa [Int.natCast_mul] at h
  have hr := run_make (P := P) w t e i z ht hi hz kl kc n c (by omega) (by omega) hb (by omega)
  simp only [Int.toNat_natCast] at hr
  exact hr

theorem madeCells_size (n : Nat) : (madeCells (Value.int .i64 0).cells (n * 1)).size = n := by simp [madeCells]; try rfl

set_option maxHeartbeats 400000 in
theorem with_any (v : Value) (xs : List Int) (i : Nat) (n : Int) (B : Nat) (w : World) (hr : Rd w B v xs) (hi : i < xs.length) (hx : xs.length ≤ 4096) :
    Calls Try.prog 33 #[v, .int .i64 i, .int .i64 n] w (RowPost w (xs.set i n)) := by
  obtain ⟨i0, hi0, hz0, hz1, hz2⟩ := info_parts info3
  have hmk : ∀ W : World, (Instr.makeSlice 22 (.int .i64 (xs.length : Int)) (.int .i64 (xs.length : Int))).run Try.prog W = .ok (.slice (some ⟨W.heap.size, 0, none⟩) xs.length xs.length) (W.alloc (.cells (madeCells (Value.int .i64 0).cells (xs.length * 1)) 3)) := by
    intro W
    have := run_make_rowN (P := Try.prog) 22 3 i0 (.int .i64 0) (by kernel_rfl) hi0 hz0 .i64 .i64 xs.length xs.length (Nat.le_refl _) (by rw [hz2]; omega) (by omega) W
    rw [hz1] at this
    exact this
  obtain ⟨hB, a, cap, rfl, h1, h2, h3⟩ := hr
  unfold maxLen at h2
  have H3 := hide h3
  clear h3 hi0 hz0 hz1 hz2
  go_enter Try.func33, Try.ntmps33
  have hsz : (madeCells #[Value.int .i64 0] xs.length).size = xs.length := by simp [madeCells]
  have Hsz := hide hsz
  clear hsz
  go_wp2_with (refine wpList_copy_splice rfl (.tmp 11) (.tmp 12) 22 22 rfl 3 (by kernel_rfl) (by kernel_rfl) (some ⟨w.heap.size, 0, none⟩) a xs.length xs.length xs.length cap rfl rfl w.heap.size 0 (madeCells #[.int .i64 0] xs.length).toList 3 (by simpa using heap_alloc_new w (.cells (madeCells #[.int .i64 0] xs.length) 3)) (icells xs) ?c1 ?c2 ?c3 (icells_one _) w.heap.size w ?c4 (Nat.le_refl _) ?_)
  case c1 => rw [icells_length]; exact (Nat.min_self _).symm
  case c2 =>
    intro hpos
    obtain ⟨b, off, rfl, _, _⟩ := H3.out i hi
    refine ⟨_, rfl, fun j u hu => ?_⟩
    have hj : j < xs.length := by
      have := (List.getElem?_eq_some_iff.1 hu).1
      simpa [icells] using this
    obtain ⟨b', off', e1, e2, e3⟩ := H3.out j hj
    cases e1
    rw [Addr.add_lit, World.cell?_alloc_lt _ _ _ (by show b < _; omega), e3, ← hu]
    simp [icells, hj]
  case c3 => simp [icells, Hsz.out]
  case c4 => exact (Below.refl _ _).alloc (Nat.le_refl _) _
  intro w2 hw hb
  have hcs : splice (madeCells #[Value.int .i64 0] xs.length).toList 0 (icells xs) = icells xs := by
    unfold splice
    rw [List.take_zero, List.nil_append, Nat.zero_add, List.drop_of_length_le (by simp [icells, Hsz.out]), List.append_nil]
  have hm : Made w w2 (.slice (some ⟨w.heap.size, 0, none⟩) xs.length xs.length) xs := by
    have h0 := hw.out
    rw [hcs] at h0
    refine ⟨⟨by simp [icells], .inr ⟨_, 0, _, _, (0, 0), rfl, h0, Nat.zero_le _, Nat.le_refl _, by unfold maxLen; omega, by simp [icells], fun j _ => by simp⟩⟩, fun b hb => by simp [Value.ownBlock] at hb; omega, none_of_below hb⟩
  obtain ⟨g, off, cap', e, g1, g2, g3, g4, H5⟩ := hm.set i hi n
  injection e with e1 _ e2
  injection e1 with e1
  injection e1 with e1 e3 _
  subst e1 e3 e2
  rw [Nat.zero_add] at g3 g4 H5
  have H6 := hide H5
  clear hw hb hcs hm H5
  go_wp2
  go_ret
  exact ⟨_, rfl, H6.out⟩

end Go.Proofs.Ytppnegohdogjeaa
