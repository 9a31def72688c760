/- What goes out comes in as it was; a quoted text is one word. -/
import Derived.Test.YtdcfpklohleoiaaDoorAH
namespace Go.Proofs.YtdcfpklohleoiaaDoor
open Go.RowKit

/-- All are exported, none is fixed. -/
def Xp (vs : List V) : Prop := ∀ a ∈ vs, a.x = true ∧ a.r = false
theorem lookV_mem {vs : List V} {m : List UInt8} : lookV vs m ∈ vs ∨ lookV vs m = ⟨m, [], false, false⟩ := by
  unfold lookV lookF
  cases h : vs.find? (fun a => a.n == m) with
  | none => exact .inr rfl
  | some a => exact .inl (List.mem_of_find?_eq_some h)
theorem lookV_r {vs : List V} (h : Xp vs) (m : List UInt8) : (lookV vs m).r = false := by
  rcases lookV_mem (vs := vs) (m := m) with h1 | h1
  · exact (h _ h1).2
  · rw [h1]
/-- Between Set and Mark: all but this one are exported. -/
def Xb (vs : List V) (m : List UInt8) : Prop := ∀ a ∈ vs, a.r = false ∧ (a.n = m ∨ a.x = true)
theorem xb_set {vs : List V} (h : Xp vs) (m val : List UInt8) : Xb (setF vs m val).1 m := by
  have hx : Xb vs m := fun a ha => ⟨(h a ha).2, .inr (h a ha).1⟩
  unfold setF
  split
  · exact hx
  · split
    · exact hx
    · split
      · exact hx
      · split
        · exact hx
        · intro a ha
          rcases put_mem ha with rfl | ha
          · exact ⟨lookV_r h m, .inl (lookV_n vs m)⟩
          · exact hx a ha
theorem put_keeps_other {vs : List V} {u a : V} (ha : a ∈ putF vs u) : a = u ∨ (a ∈ vs ∧ (Srt vs → a.n ≠ u.n)) := by
  induction vs with
  | nil => unfold putF at ha; simp at ha; exact .inl ha
  | cons b l ih =>
    unfold putF at ha
    split at ha
    · rename_i he
      rcases List.mem_cons.1 ha with rfl | ha
      · exact .inl rfl
      · refine .inr ⟨List.mem_cons_of_mem _ ha, fun hs e => ?_⟩
        have := (List.pairwise_cons.1 hs).1 a ha
        exact lts_ne this (by rw [e, he])
    · rename_i hne
      split at ha
      · rename_i hlt
        rcases List.mem_cons.1 ha with rfl | ha
        · exact .inl rfl
        · refine .inr ⟨ha, fun hs e => ?_⟩
          rcases List.mem_cons.1 ha with rfl | ha
          · exact hne e
          · have := (List.pairwise_cons.1 hs).1 a ha
            have h2 := lts_trans _ _ _ hlt this
            exact lts_ne h2 e.symm
      · rcases List.mem_cons.1 ha with rfl | ha
        · exact .inr ⟨List.mem_cons_self .., fun _ => hne⟩
        · rcases ih ha with h | ⟨h1, h2⟩
          · exact .inl h
          · exact .inr ⟨List.mem_cons_of_mem _ h1, fun hs => h2 (List.pairwise_cons.1 hs).2⟩

theorem xp_mark {vs : List V} (hs : Srt vs) {m : List UInt8} (h : Xb vs m) (hc : (markF vs m true false).2 = 0) : Xp (markF vs m true false).1 := by
  unfold markF at hc ⊢
  split at hc
  · cases hc
  · rename_i h1
    split at hc
    · cases hc
    · rename_i h2
      rw [if_neg h1, if_neg h2]
      intro a ha
      have hn : ({ lookV vs m with x := (lookV vs m).x || true, r := (lookV vs m).r || false } : V).n = m := lookV_n vs m
      rcases put_keeps_other ha with rfl | ⟨h3, h4⟩
      · refine ⟨by simp, ?_⟩
        simp only [Bool.or_false]
        rcases lookV_mem (vs := vs) (m := m) with h5 | h5
        · exact (h _ h5).1
        · rw [h5]
      · have h5 := h4 hs
        rw [hn] at h5
        exact ⟨((h a h3).2.resolve_left h5), (h a h3).1⟩
theorem set_zero {vs : List V} (h : WF vs) {m val : List UInt8} (hc : (setF vs m val).2 = 0) : (markF (setF vs m val).1 m true false).2 = 0 := by
  have h0 : nameB m = true ∧ foundB (setF vs m val).1 m = true := by
    unfold setF at hc ⊢
    split at hc
    · cases hc
    · rename_i h1
      split at hc
      · cases hc
      · rename_i h2
        split at hc
        · cases hc
        · rename_i h3
          split at hc
          · cases hc
          · rename_i h4
            refine ⟨by simpa using h1, ?_⟩
            rw [if_neg h1, if_neg h2, if_neg h3, if_neg h4]
            unfold foundB
            rw [put_look h.srt, if_pos (show ({ lookV vs m with v := val } : V).n = m from lookV_n vs m)]
            rfl
  unfold markF
  rw [if_neg (by rw [h0.1]; decide), if_neg (by rw [h0.2]; simp)]
theorem xp_step {vs : List V} (hw : WF vs) (h : Xp vs) (s : List UInt8) : Xp (stepF vs s) := by
  unfold stepF
  split
  · exact h
  · split
    · rename_i hc
      exact xp_mark (wf_set hw _ _).srt (xb_set h _ _) (set_zero hw hc)
    · exact h
theorem xp_from (ss : List (List UInt8)) : Xp (fromF ss) := by
  unfold fromF
  have : ∀ (l : List (List UInt8)) (vs : List V), WF vs → Xp vs → Xp (l.foldl stepF vs) := by
    intro l
    induction l with
    | nil => intro vs _ h; exact h
    | cons s l ih => intro vs hw h; exact ih _ (wf_step hw s) (xp_step hw h s)
  exact this ss [] WF.nil (fun a ha => by cases ha)
theorem nm_no61 : ∀ (f : Bool) (s : List UInt8), nmGo f s = s.length → ∀ c ∈ s, c ≠ 61
  | _, [], _, _, hc => by cases hc
  | f, d :: r, h, c, hc => by
    unfold nmGo at h
    split at h
    · rename_i hd
      rcases List.mem_cons.1 hc with rfl | hc
      · intro e
        subst e
        revert hd
        cases f <;> decide
      · refine nm_no61 false r ?_ c hc
        simp only [List.length_cons] at h
        omega
    · simp at h
theorem cut_eqT {a : V} (hn : nameB a.n = true) : cutF (eqT a) = (a.n, a.v, true) := by
  have hn2 : nmGo true a.n = a.n.length := by
    unfold nameB at hn
    simp at hn
    exact hn.2
  have h61 := nm_no61 true a.n hn2
  have hl : a.n.length < (eqT a).length := by unfold eqT; simp
  have hat : (eqT a)[a.n.length] = 61 := by
    have h1 : (eqT a)[a.n.length]? = some 61 := by unfold eqT; simp
    rw [List.getElem?_eq_getElem hl] at h1
    exact Option.some.inj h1
  rw [cut_at hl hat (fun i hi hlt => by
    have h1 : (eqT a)[i]? = some a.n[i] := by
      unfold eqT
      rw [List.append_assoc, List.getElem?_append_left hlt, List.getElem?_eq_getElem hlt]
    rw [List.getElem?_eq_getElem hi] at h1
    rw [Option.some.inj h1]
    exact h61 _ (List.getElem_mem _))]
  unfold eqT
  rw [List.append_assoc, List.take_left' rfl]
  congr 1
  congr 1
  rw [← List.append_assoc, List.drop_append_of_le_length (by simp), List.drop_eq_nil_of_le (by simp)]
  rfl
theorem put_last {vs : List V} {u : V} (h : ∀ a ∈ vs, lts a.n u.n = true) : putF vs u = vs ++ [u] := by
  induction vs with
  | nil => rfl
  | cons b l ih =>
    have hb := h b (List.mem_cons_self ..)
    unfold putF
    rw [if_neg (lts_ne hb), if_neg (by rw [lts_asymm hb]; decide), ih (fun a ha => h a (List.mem_cons_of_mem _ ha))]
    rfl
theorem look_no {vs : List V} {m : List UInt8} (h : ∀ a ∈ vs, lts a.n m = true) : lookF vs m = none := by
  unfold lookF
  rw [List.find?_eq_none]
  intro a ha
  have := lts_ne (h a ha)
  simpa using this
theorem step_last {vs : List V} {u : V} (h : ∀ a ∈ vs, lts a.n u.n = true) (hl : vs.length < 40) (hn : nameB u.n = true) (hv : u.v.length ≤ 1024) (hx : u.x = true) (hr : u.r = false) (hs : Srt (vs ++ [u])) : stepF vs (eqT u) = vs ++ [u] := by
  have hlk := look_no h
  have hlv : lookV vs u.n = ⟨u.n, [], false, false⟩ := by unfold lookV; rw [hlk]; rfl
  have hset : setF vs u.n u.v = (vs ++ [⟨u.n, u.v, false, false⟩], 0) := by
    unfold setF
    rw [if_neg (by rw [hn]; decide), if_neg (by rw [hlv]; simp), if_neg (by omega), if_neg (by intro e; omega), hlv]
    show (putF vs (⟨u.n, u.v, false, false⟩ : V), (0 : Int)) = _
    rw [put_last (u := ⟨u.n, u.v, false, false⟩) h]
  have hlk2 : lookF (vs ++ [⟨u.n, u.v, false, false⟩]) u.n = some ⟨u.n, u.v, false, false⟩ := by
    unfold lookF at hlk ⊢
    rw [List.find?_append, hlk]
    simp
  have hlv2 : lookV (vs ++ [⟨u.n, u.v, false, false⟩]) u.n = ⟨u.n, u.v, false, false⟩ := by unfold lookV; rw [hlk2]; rfl
  have hput : ∀ (l : List V) (a b : V), a.n = b.n → (∀ x ∈ l, lts x.n b.n = true) → putF (l ++ [a]) b = l ++ [b] := by
    intro l a b hab
    induction l with
    | nil => intro _; simp [putF, hab]
    | cons c l ih =>
      intro hx
      have hc := hx c (List.mem_cons_self ..)
      show putF (c :: (l ++ [a])) b = _
      unfold putF
      rw [if_neg (lts_ne hc), if_neg (by rw [lts_asymm hc]; decide), ih (fun x hx' => hx x (List.mem_cons_of_mem _ hx'))]
      rfl
  unfold stepF
  rw [cut_eqT hn]
  simp only [hset, Bool.true_eq_false, if_false, if_true]
  unfold markF
  rw [if_neg (by rw [hn]; decide), if_neg (by unfold foundB; rw [hlk2]; simp), hlv2]
  simp only [Bool.false_or, Bool.or_false]
  rw [hput vs ⟨u.n, u.v, false, false⟩ ⟨u.n, u.v, true, false⟩ rfl h]
  obtain ⟨un, uv, ux, ur⟩ := u
  simp only at hx hr
  subst hx hr
  rfl
/-- What goes out comes in as it was. -/
theorem out_back {vs : List V} (hw : WF vs) (hx : Xp vs) : fromF (outF vs) = vs := by
  have hout : outF vs = vs.map eqT := by
    unfold outF
    rw [List.filter_eq_self.2 (fun a ha => (hx a ha).1)]
  rw [hout]
  have key : ∀ k, k ≤ vs.length → fromF ((vs.take k).map eqT) = vs.take k := by
    intro k
    induction k with
    | zero => intro _; rfl
    | succ k ih =>
      intro hk
      have hlt : k < vs.length := by omega
      rw [List.take_succ_eq_append_getElem hlt, List.map_append, List.map_singleton, from_snoc, ih (by omega)]
      have hl := hw.len
      have hsub : Srt (vs.take k ++ [vs[k]]) := by
        rw [← List.take_succ_eq_append_getElem hlt]
        exact List.Pairwise.sublist (List.take_sublist _ _) hw.srt
      refine step_last (fun a ha => ?_) (by rw [List.length_take]; omega) (hw.nm _ (List.getElem_mem hlt)) (hw.vl _ (List.getElem_mem hlt)) (hx _ (List.getElem_mem hlt)).1 (hx _ (List.getElem_mem hlt)).2 hsub
      exact (List.pairwise_append.1 hsub).2.2 a ha _ (List.mem_singleton.2 rfl)
  have := key vs.length (Nat.le_refl _)
  rwa [List.take_length] at this

end Go.Proofs.YtdcfpklohleoiaaDoor
