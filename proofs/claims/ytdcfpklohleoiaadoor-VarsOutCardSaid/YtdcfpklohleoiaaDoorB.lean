/- Plain law of an env, second part: what the calls answer; what stays. -/
import Derived.Test.YtdcfpklohleoiaaDoorA
namespace Go.Proofs.YtdcfpklohleoiaaDoor
open Go.Lib

def letB (c : UInt8) : Bool := decide (97 ≤ c.toNat ∧ c.toNat ≤ 122) || decide (65 ≤ c.toNat ∧ c.toNat ≤ 90) || decide (c.toNat = 95)
def digB (c : UInt8) : Bool := decide (48 ≤ c.toNat ∧ c.toNat ≤ 57)
def nmGo : Bool → List UInt8 → Nat
  | _, [] => 0
  | f, c :: r => if (letB c || (!f && digB c)) = true then nmGo false r + 1 else 0
def nameB (s : List UInt8) : Bool := decide (0 < nmGo true s ∧ nmGo true s = s.length)
theorem nm_le : ∀ (f : Bool) (s : List UInt8), nmGo f s ≤ s.length
  | _, [] => Nat.le_refl _
  | f, c :: r => by
    unfold nmGo
    have := nm_le false r
    split
    · rw [List.length_cons]; omega
    · exact Nat.zero_le _
def lookV (vs : List V) (m : List UInt8) : V := (lookF vs m).getD ⟨m, [], false, false⟩
def foundB (vs : List V) (m : List UInt8) : Bool := (lookF vs m).isSome
def setF (vs : List V) (m val : List UInt8) : List V × Int :=
  if nameB m = false then (vs, 1)
  else if (lookV vs m).r = true then (vs, 21)
  else if 1024 < val.length then (vs, 10)
  else if foundB vs m = false ∧ 40 ≤ vs.length then (vs, 9)
  else (putF vs { lookV vs m with v := val }, 0)
def markF (vs : List V) (m : List UInt8) (x r : Bool) : List V × Int :=
  if nameB m = false then (vs, 1)
  else if foundB vs m = false ∧ 40 ≤ vs.length then (vs, 9)
  else (putF vs { lookV vs m with x := (lookV vs m).x || x, r := (lookV vs m).r || r }, 0)
def delF (vs : List V) (m : List UInt8) : List V := vs.filter fun a => !(a.n == m)
def unsetF (vs : List V) (m : List UInt8) : List V × Int :=
  if nameB m = false then (vs, 1)
  else if (lookV vs m).r = true then (vs, 21)
  else (delF vs m, 0)
/-- What is right of an env. -/
structure WF (vs : List V) : Prop where
  srt : Srt vs
  len : vs.length ≤ 40
  nm : ∀ a ∈ vs, nameB a.n = true
  vl : ∀ a ∈ vs, a.v.length ≤ 1024
theorem WF.nil : WF [] := ⟨List.Pairwise.nil, by simp, by simp, by simp⟩
theorem look_mem {vs : List V} {m : List UInt8} {a : V} (h : lookF vs m = some a) : a ∈ vs ∧ a.n = m :=
  ⟨List.mem_of_find?_eq_some h, by have := List.find?_some h; simpa using this⟩
theorem lookV_n (vs : List V) (m : List UInt8) : (lookV vs m).n = m := by
  unfold lookV
  cases h : lookF vs m with
  | none => rfl
  | some a => exact (look_mem h).2
theorem lookV_v {vs : List V} (h : WF vs) (m : List UInt8) : (lookV vs m).v.length ≤ 1024 := by
  unfold lookV
  cases hh : lookF vs m with
  | none => exact Nat.zero_le _
  | some a => exact h.vl a (look_mem hh).1
theorem wf_put {vs : List V} (h : WF vs) (u : V) (hn : nameB u.n = true) (hv : u.v.length ≤ 1024) (hl : ¬ (foundB vs u.n = false ∧ 40 ≤ vs.length)) : WF (putF vs u) := by
  refine ⟨put_srt h.srt u, ?_, fun a ha => ?_, fun a ha => ?_⟩
  · rw [put_len h.srt u]
    have := h.len
    by_cases hf : (lookF vs u.n).isSome = true
    · rw [if_pos hf]; exact this
    · rw [if_neg hf]
      have : foundB vs u.n = false := by unfold foundB; simpa using hf
      have : ¬ 40 ≤ vs.length := fun h => hl ⟨this, h⟩
      omega
  · rcases put_mem ha with rfl | ha
    · exact hn
    · exact h.nm a ha
  · rcases put_mem ha with rfl | ha
    · exact hv
    · exact h.vl a ha
theorem wf_set {vs : List V} (h : WF vs) (m val : List UInt8) : WF (setF vs m val).1 := by
  unfold setF
  split
  · exact h
  · rename_i h1
    split
    · exact h
    · split
      · exact h
      · rename_i h2
        split
        · exact h
        · rename_i h3
          have hn : ({ lookV vs m with v := val } : V).n = m := lookV_n vs m
          exact wf_put h _ (by rw [hn]; simpa using h1) (by show val.length ≤ 1024; omega) (by rw [hn]; exact h3)
theorem wf_mark {vs : List V} (h : WF vs) (m : List UInt8) (x r : Bool) : WF (markF vs m x r).1 := by
  unfold markF
  split
  · exact h
  · rename_i h1
    split
    · exact h
    · rename_i h3
      have hn : ({ lookV vs m with x := (lookV vs m).x || x, r := (lookV vs m).r || r } : V).n = m := lookV_n vs m
      exact wf_put h _ (by rw [hn]; simpa using h1) (lookV_v h m) (by rw [hn]; exact h3)
theorem wf_del {vs : List V} (h : WF vs) (m : List UInt8) : WF (delF vs m) := by
  refine ⟨h.srt.filter _, ?_, fun a ha => h.nm a (List.mem_filter.1 ha).1, fun a ha => h.vl a (List.mem_filter.1 ha).1⟩
  have := List.length_filter_le (fun a : V => !(a.n == m)) vs
  have := h.len
  unfold delF
  omega
theorem wf_unset {vs : List V} (h : WF vs) (m : List UInt8) : WF (unsetF vs m).1 := by
  unfold unsetF
  split
  · exact h
  · split
    · exact h
    · exact wf_del h m
/-- What may not be changed is not. -/
theorem look_of_mem {vs : List V} (h : Srt vs) {a : V} (ha : a ∈ vs) : lookF vs a.n = some a := by
  obtain ⟨j, hj, hja⟩ := List.getElem_of_mem ha
  cases hh : lookF vs a.n with
  | none =>
    unfold lookF at hh
    rw [List.find?_eq_none] at hh
    exact absurd (by simp) (hh a ha)
  | some b =>
    obtain ⟨hb, hbn⟩ := look_mem hh
    obtain ⟨k, hk, hkb⟩ := List.getElem_of_mem hb
    have : k = j := srt_eq h hk hj (by rw [hkb, hja, hbn])
    subst this
    rw [← hkb, hja]
theorem set_keeps {vs : List V} (h : Srt vs) (m val : List UInt8) {a : V} (ha : a ∈ vs) (hr : a.r = true) : lookF (setF vs m val).1 a.n = some a := by
  have hl := look_of_mem h ha
  unfold setF
  split
  · exact hl
  · split
    · exact hl
    · rename_i h2
      split
      · exact hl
      · split
        · exact hl
        · rw [put_look h, show ({ lookV vs m with v := val } : V).n = m from lookV_n vs m]
          by_cases e : m = a.n
          · subst e
            exfalso
            apply h2
            unfold lookV
            rw [hl]
            exact hr
          · rw [if_neg e]; exact hl
theorem mark_keeps {vs : List V} (h : Srt vs) (m : List UInt8) (x r : Bool) {a : V} (ha : a ∈ vs) : ∃ b, lookF (markF vs m x r).1 a.n = some b ∧ b.v = a.v := by
  have hl := look_of_mem h ha
  unfold markF
  split
  · exact ⟨a, hl, rfl⟩
  · split
    · exact ⟨a, hl, rfl⟩
    · have hn : ({ lookV vs m with x := (lookV vs m).x || x, r := (lookV vs m).r || r } : V).n = m := lookV_n vs m
      rw [put_look h, hn]
      by_cases e : m = a.n
      · subst e
        rw [if_pos rfl]
        refine ⟨_, rfl, ?_⟩
        show (lookV vs a.n).v = a.v
        unfold lookV
        rw [hl]
        rfl
      · rw [if_neg e]; exact ⟨a, hl, rfl⟩
theorem unset_keeps {vs : List V} (h : Srt vs) (m : List UInt8) {a : V} (ha : a ∈ vs) (hr : a.r = true) : lookF (unsetF vs m).1 a.n = some a := by
  have hl := look_of_mem h ha
  unfold unsetF
  split
  · exact hl
  · split
    · exact hl
    · rename_i h2
      have e : ¬ m = a.n := by
        intro e
        subst e
        apply h2
        unfold lookV
        rw [hl]
        exact hr
      have : a ∈ delF vs m := List.mem_filter.2 ⟨ha, by
        have : (a.n == m) = false := by rw [beq_eq_false_iff_ne]; exact fun h => e h.symm
        rw [this]; rfl⟩
      exact look_of_mem (h.filter _) this

/-! ### the place in the list -/
/-- The list with the name in it, as it is or new. -/
theorem put_place {vs : List V} (h : Srt vs) (m : List UInt8) : idxF m vs < (putF vs (lookV vs m)).length ∧ (∀ hh : idxF m vs < (putF vs (lookV vs m)).length, (putF vs (lookV vs m))[idxF m vs] = lookV vs m) ∧ ∀ u : V, u.n = m → putF vs u = (putF vs (lookV vs m)).set (idxF m vs) u := by
  have hn := lookV_n vs m
  have hle := idx_le m vs
  by_cases hf : ∃ h : idxF m vs < vs.length, vs[idxF m vs].n = m
  · obtain ⟨h1, h2⟩ := hf
    have hl : lookV vs m = vs[idxF m vs] := by unfold lookV; rw [(look_idx h m).1 h1 h2]; rfl
    have hp := put_found h (lookV vs m) (by rw [hn]; exact h1) (by simp only [hn]; exact h2)
    rw [hn] at hp
    rw [hp]
    refine ⟨by rw [List.length_set]; exact h1, fun _ => List.getElem_set_self .., fun u hu => ?_⟩
    rw [List.set_set]
    have := put_found h u (by rw [hu]; exact h1) (by simp only [hu]; exact h2)
    rw [hu] at this
    exact this
  · have hf' : ∀ h : idxF m vs < vs.length, vs[idxF m vs].n ≠ m := fun h1 h2 => hf ⟨h1, h2⟩
    have hp := put_none h (lookV vs m) (by simp only [hn]; exact hf')
    rw [hn] at hp
    rw [hp]
    have htl : (vs.take (idxF m vs)).length = idxF m vs := by rw [List.length_take]; omega
    refine ⟨by rw [List.length_append, htl, List.length_cons]; omega, fun _ => ?_, fun u hu => ?_⟩
    · rw [List.getElem_append_right (by omega)]
      simp [htl]
    · have := put_none h u (by simp only [hu]; exact hf')
      rw [hu] at this
      rw [this, List.set_append_right _ _ (by omega), htl, Nat.sub_self, List.set_cons_zero]
theorem put_same {vs : List V} (h : Srt vs) (m : List UInt8) (hf : foundB vs m = true) : putF vs (lookV vs m) = vs ∧ ∃ hh : idxF m vs < vs.length, vs[idxF m vs] = lookV vs m := by
  have hn := lookV_n vs m
  by_cases hf2 : ∃ h : idxF m vs < vs.length, vs[idxF m vs].n = m
  · obtain ⟨h1, h2⟩ := hf2
    have hl : lookV vs m = vs[idxF m vs] := by unfold lookV; rw [(look_idx h m).1 h1 h2]; rfl
    have hp := put_found h (lookV vs m) (by rw [hn]; exact h1) (by simp only [hn]; exact h2)
    rw [hn] at hp
    refine ⟨?_, h1, hl.symm⟩
    rw [hp, hl]
    exact List.set_getElem_self h1
  · exfalso
    unfold foundB at hf
    rw [(look_idx h m).2 (fun h1 h2 => hf2 ⟨h1, h2⟩)] at hf
    cases hf
theorem put_new {vs : List V} (h : Srt vs) (m : List UInt8) (hf : foundB vs m = false) : lookV vs m = ⟨m, [], false, false⟩ ∧ putF vs (lookV vs m) = vs.take (idxF m vs) ++ ⟨m, [], false, false⟩ :: vs.drop (idxF m vs) := by
  have hl : lookF vs m = none := by
    unfold foundB at hf
    cases hh : lookF vs m with
    | none => rfl
    | some a => rw [hh] at hf; cases hf
  have hv : lookV vs m = ⟨m, [], false, false⟩ := by unfold lookV; rw [hl]; rfl
  refine ⟨hv, ?_⟩
  rw [hv]
  refine put_none h ⟨m, [], false, false⟩ (fun h1 h2 => ?_)
  have := (look_idx h m).1 h1 h2
  rw [hl] at this
  cases this

end Go.Proofs.YtdcfpklohleoiaaDoor
