/- Small facts of texts and names that VarsOut wants. -/
import Derived.Test.YtdcfpklohleoiaaDoorAC
import Derived.Test.YtdcfpklohleoiaaDoorN
namespace Go.Proofs.YtdcfpklohleoiaaDoor
open Go.RowKit

theorem cut_no {s : List UInt8} (h : ∀ i (hi : i < s.length), s[i] ≠ 61) : (cutF s).2.2 = false := by
  have : Lib.indexByte s 61 = -1 := by
    rcases idx_cut 61 s with ⟨_, h1⟩ | ⟨j, h1, h2, _⟩
    · exact h1
    · obtain ⟨h3, _⟩ := Lib.indexByte_some h1
      rw [List.getElem?_eq_getElem h2] at h3
      exact absurd (Option.some.inj h3) (h j h2)
  unfold cutF
  rw [this]
  rfl
theorem cut_at {s : List UInt8} {j : Nat} (hj : j < s.length) (h61 : s[j] = 61) (h : ∀ i (hi : i < s.length), i < j → s[i] ≠ 61) : cutF s = (s.take j, s.drop (j + 1), true) := by
  have : Lib.indexByte s 61 = j := by
    rcases idx_cut 61 s with ⟨h0, _⟩ | ⟨k, h1, h2, _⟩
    · rw [List.count_eq_zero] at h0
      exact absurd (h61 ▸ List.getElem_mem hj) h0
    · obtain ⟨h3, h4⟩ := Lib.indexByte_some h1
      rw [List.getElem?_eq_getElem h2] at h3
      have h5 : ¬ k < j := fun e => h k h2 e (Option.some.inj h3)
      have h6 : ¬ j < k := fun e => by
        have := h4 j e
        rw [List.getElem?_eq_getElem hj, h61] at this
        exact this rfl
      rw [h1]
      omega
  unfold cutF
  rw [this]
theorem StrL.grown {w w' : World} {a : Option Addr} {ss : List (List UInt8)} (h : StrL w a ss) (hg : w.grownBy w' none) : StrL w' a ss := fun i hi => by
  obtain ⟨b, off, ha, hb, hc⟩ := h i hi
  exact ⟨b, off, ha, Nat.lt_of_lt_of_le hb hg.size, old_cell hg hb hc⟩
theorem StrL.take {w : World} {a : Option Addr} {ss : List (List UInt8)} (h : StrL w a ss) (n : Nat) : StrL w a (ss.take n) := fun i hi => by
  rw [List.length_take] at hi
  obtain ⟨b, off, ha, hb, hc⟩ := h i (by omega)
  exact ⟨b, off, ha, hb, by rw [List.getElem_take]; exact hc⟩
theorem strl_of_own {w : World} {a : Option Addr} {ss : List (List UInt8)} {cap : Nat} (h : Own w 9 1 (.slice a ss.length cap) ss.length (ss.map sv) 0) : StrL w a ss := fun i hi => by
  obtain ⟨g, off, cap', hv, _, _, hg, hc⟩ := h.some_ (by omega)
  injection hv with hv _ _
  refine ⟨g, off, hv, hg, ?_⟩
  rw [hc i (by omega), List.getElem?_map, List.getElem?_eq_getElem hi]
  rfl
theorem nm_put {vs : List V} (h : NM vs) (u : V) (hu : u.n.length ≤ 140737488355328) : NM (putF vs u) := fun a ha => by
  rcases put_mem ha with rfl | ha
  · exact hu
  · exact h a ha
theorem nm_set {vs : List V} (h : NM vs) (m val : List UInt8) (hm : m.length ≤ 140737488355328) : NM (setF vs m val).1 := by
  unfold setF
  split
  · exact h
  · split
    · exact h
    · split
      · exact h
      · split
        · exact h
        · exact nm_put h _ (by rw [show ({ lookV vs m with v := val } : V).n = m from lookV_n vs m]; exact hm)
theorem nm_mark {vs : List V} (h : NM vs) (m : List UInt8) (x r : Bool) (hm : m.length ≤ 140737488355328) : NM (markF vs m x r).1 := by
  unfold markF
  split
  · exact h
  · split
    · exact h
    · exact nm_put h _ (by rw [show ({ lookV vs m with x := (lookV vs m).x || x, r := (lookV vs m).r || r } : V).n = m from lookV_n vs m]; exact hm)
theorem nm_unset {vs : List V} (h : NM vs) (m : List UInt8) : NM (unsetF vs m).1 := by
  unfold unsetF
  split
  · exact h
  · split
    · exact h
    · exact fun a ha => h a (List.mem_filter.1 ha).1
theorem nm_step {vs : List V} (h : NM vs) (s : List UInt8) (hs : s.length ≤ 140737488355328) : NM (stepF vs s) := by
  have hc := (cut_len s).1
  unfold stepF
  split
  · exact h
  · split
    · exact nm_mark (nm_set h _ _ (by omega)) _ _ _ (by omega)
    · exact h
theorem nm_from (ss : List (List UInt8)) (hs : ∀ s ∈ ss, s.length ≤ 140737488355328) : NM (fromF ss) := by
  unfold fromF
  have : ∀ (l : List (List UInt8)) (vs : List V), NM vs → (∀ s ∈ l, s.length ≤ 140737488355328) → NM (l.foldl stepF vs) := by
    intro l
    induction l with
    | nil => intro vs h _; exact h
    | cons s l ih => intro vs h hl; exact ih _ (nm_step h s (hl s (List.mem_cons_self ..))) (fun t ht => hl t (List.mem_cons_of_mem _ ht))
  exact this ss [] (fun a ha => by cases ha) hs

end Go.Proofs.YtdcfpklohleoiaaDoor
