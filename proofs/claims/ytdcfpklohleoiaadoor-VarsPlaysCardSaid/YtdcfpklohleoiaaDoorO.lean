/- Plain law of VarsFull. -/
import Derived.Test.YtdcfpklohleoiaaDoorN
namespace Go.Proofs.YtdcfpklohleoiaaDoor
open Go.RowKit
set_option maxRecDepth 100000

def nameI (k : Nat) : List UInt8 := [110, UInt8.ofNat (97 + k / 10), UInt8.ofNat (48 + k % 10)]
def more4 : List UInt8 := [109, 111, 114, 101]
def again5 : List UInt8 := [97, 103, 97, 105, 110]
theorem nm_lt_all : ∀ j : Fin 40, ∀ i : Fin 40, i.val < j.val → lts (nameI i.val) (nameI j.val) = true := by decide +kernel
theorem nm_lt {i j : Nat} (h : i < j) (hj : j < 40) : lts (nameI i) (nameI j) = true := nm_lt_all ⟨j, hj⟩ ⟨i, Nat.lt_trans h hj⟩ h
theorem nm_ok_all : ∀ j : Fin 40, nameB (nameI j.val) = true ∧ lts more4 (nameI j.val) = true := by decide +kernel
theorem nm_ok {j : Nat} (hj : j < 40) : nameB (nameI j) = true ∧ lts more4 (nameI j) = true := nm_ok_all ⟨j, hj⟩
def envK (val : List UInt8) (k : Nat) : List V := (List.range k).map fun i => ⟨nameI i, val, false, false⟩
theorem envK_len (val : List UInt8) (k : Nat) : (envK val k).length = k := by simp [envK]
theorem envK_succ (val : List UInt8) (k : Nat) : envK val (k + 1) = envK val k ++ [⟨nameI k, val, false, false⟩] := by
  unfold envK
  rw [List.range_succ, List.map_append]
  rfl
theorem envK_mem {val : List UInt8} {k : Nat} {a : V} (h : a ∈ envK val k) : ∃ i, i < k ∧ a = ⟨nameI i, val, false, false⟩ := by
  unfold envK at h
  obtain ⟨i, hi, rfl⟩ := List.mem_map.1 h
  exact ⟨i, List.mem_range.1 hi, rfl⟩
theorem put_end : ∀ (vs : List V) (u : V), (∀ a ∈ vs, lts a.n u.n = true) → putF vs u = vs ++ [u]
  | [], _, _ => rfl
  | a :: l, u, h => by
    have h1 := h a (List.mem_cons_self ..)
    unfold putF
    rw [if_neg (lts_ne h1), if_neg (by rw [lts_asymm h1]; exact Bool.false_ne_true), put_end l u (fun b hb => h b (List.mem_cons_of_mem _ hb))]
    rfl
theorem look_none {vs : List V} {m : List UInt8} (h : ∀ a ∈ vs, a.n ≠ m) : lookF vs m = none := by
  unfold lookF
  rw [List.find?_eq_none]
  intro a ha he
  exact h a ha (by simpa using he)
theorem setK (val : List UInt8) (hv : val.length ≤ 1024) (k : Nat) (hk : k < 40) : setF (envK val k) (nameI k) val = (envK val (k + 1), 0) := by
  have hlt : ∀ a ∈ envK val k, lts a.n (nameI k) = true := fun a ha => by
    obtain ⟨i, hi, rfl⟩ := envK_mem ha
    exact nm_lt hi hk
  have hno : lookF (envK val k) (nameI k) = none := look_none (fun a ha => lts_ne (hlt a ha))
  have hl : lookV (envK val k) (nameI k) = ⟨nameI k, [], false, false⟩ := by unfold lookV; rw [hno]; rfl
  unfold setF
  rw [if_neg (by rw [(nm_ok hk).1]; exact Bool.noConfusion), hl, if_neg Bool.false_ne_true, if_neg (by omega), if_neg (by rw [envK_len]; omega), envK_succ]
  rw [put_end _ _ hlt]
theorem wfK (val : List UInt8) (hv : val.length ≤ 1024) : ∀ k, k ≤ 40 → WF (envK val k)
  | 0, _ => WF.nil
  | k + 1, h => by
    have := wf_set (wfK val hv k (by omega)) (nameI k) val
    rw [setK val hv k (by omega)] at this
    exact this
theorem del_len : ∀ {vs : List V} (_ : Srt vs) (m : List UInt8), (lookF vs m).isSome = true → (delF vs m).length + 1 = vs.length
  | [], _, _, h => by cases h
  | a :: l, hs, m, h => by
    have h1 : ∀ {c : V}, c ∈ l → lts a.n c.n = true := fun {c} hc => List.rel_of_pairwise_cons (a' := c) hs hc
    by_cases he : a.n = m
    · have hb : (a.n == m) = true := by simpa using he
      have hall : delF l m = l := by
        unfold delF
        rw [List.filter_eq_self]
        intro c hc
        have : (c.n == m) = false := by
          rw [beq_eq_false_iff_ne]
          intro e
          have := h1 hc
          rw [he, e, lts_irrefl] at this
          cases this
        rw [this]; rfl
      have : delF (a :: l) m = delF l m := by unfold delF; rw [List.filter_cons, hb]; rfl
      rw [this, hall]
      rfl
    · have hb : (a.n == m) = false := by simpa using he
      have hlk : lookF (a :: l) m = lookF l m := by unfold lookF; rw [List.find?_cons, hb]
      rw [hlk] at h
      have : delF (a :: l) m = a :: delF l m := by unfold delF; rw [List.filter_cons, hb]; rfl
      rw [this, List.length_cons, List.length_cons, del_len (List.Pairwise.of_cons hs) m h]
/-- All that VarsFull does behind the loop. -/
theorem full_plain (val : List UInt8) (hv : val.length ≤ 1024) (k : Nat) (hk : k < 40) : ∃ F G H : List V, setF (envK val 40) more4 val = (envK val 40, 9) ∧ markF (envK val 40) more4 true false = (envK val 40, 9) ∧
    setF (envK val 40) (nameI k) again5 = (F, 0) ∧ WF F ∧ unsetF F (nameI k) = (G, 0) ∧ WF G ∧ setF G more4 val = (H, 0) ∧ WF H ∧ foundB H (nameI k) = false ∧ H.length = 40 := by
  have hwE := wfK val hv 40 (Nat.le_refl _)
  have hmo : lookF (envK val 40) more4 = none := look_none (fun a ha e => by
    obtain ⟨i, hi, rfl⟩ := envK_mem ha
    exact lts_ne (nm_ok hi).2 e.symm)
  have hmV : lookV (envK val 40) more4 = ⟨more4, [], false, false⟩ := by unfold lookV; rw [hmo]; rfl
  have hmF : foundB (envK val 40) more4 = false := by unfold foundB; rw [hmo]; rfl
  have hmn : nameB more4 = true := by decide
  have hmem : (⟨nameI k, val, false, false⟩ : V) ∈ envK val 40 := List.mem_map.2 ⟨k, List.mem_range.2 hk, rfl⟩
  have hlk := look_of_mem hwE.srt hmem
  have hlV : lookV (envK val 40) (nameI k) = ⟨nameI k, val, false, false⟩ := by unfold lookV; rw [show lookF (envK val 40) (nameI k) = some _ from hlk]; rfl
  have hlF : foundB (envK val 40) (nameI k) = true := by unfold foundB; rw [show lookF (envK val 40) (nameI k) = some _ from hlk]; rfl
  obtain ⟨F, hF⟩ : ∃ F, putF (envK val 40) ⟨nameI k, again5, false, false⟩ = F := ⟨_, rfl⟩
  have eC : setF (envK val 40) (nameI k) again5 = (F, 0) := by
    unfold setF
    rw [if_neg (by rw [(nm_ok hk).1]; exact Bool.noConfusion), hlV, if_neg Bool.false_ne_true, if_neg (by decide), if_neg (by rw [hlF]; exact fun h => Bool.noConfusion h.1), ← hF]
  have hwF : WF F := by have := wf_set hwE (nameI k) again5; rw [eC] at this; exact this
  have hFl : F.length = 40 := by rw [← hF, put_len hwE.srt]; show (if (lookF (envK val 40) (nameI k)).isSome = true then _ else _) = _; rw [show lookF (envK val 40) (nameI k) = some _ from hlk]; show (envK val 40).length = 40; rw [envK_len]
  have hlkF : lookF F (nameI k) = some ⟨nameI k, again5, false, false⟩ := by rw [← hF, put_look hwE.srt, if_pos rfl]
  obtain ⟨G, hG⟩ : ∃ G, delF F (nameI k) = G := ⟨_, rfl⟩
  have eD : unsetF F (nameI k) = (G, 0) := by
    unfold unsetF
    rw [if_neg (by rw [(nm_ok hk).1]; exact Bool.noConfusion), if_neg (by unfold lookV; rw [hlkF]; exact Bool.false_ne_true), hG]
  have hwG : WF G := by have := wf_unset hwF (nameI k); rw [eD] at this; exact this
  have hGl : G.length = 39 := by have := del_len hwF.srt (nameI k) (by rw [hlkF]; rfl); rw [hG, hFl] at this; omega
  have hGm : ∀ a ∈ G, a.n ≠ more4 ∧ a.n ≠ nameI k := fun a ha => by
    rw [← hG] at ha
    obtain ⟨h1, h2⟩ := List.mem_filter.1 ha
    have h3 : a.n ≠ nameI k := fun e => by rw [e] at h2; simp at h2
    refine ⟨fun e => ?_, h3⟩
    rw [← hF] at h1
    rcases put_mem h1 with h | h
    · rw [h] at h3; exact h3 rfl
    · obtain ⟨i, hi, rfl⟩ := envK_mem h
      exact lts_ne (nm_ok hi).2 e.symm
  have hGo : lookF G more4 = none := look_none (fun a ha => (hGm a ha).1)
  have hGk : lookF G (nameI k) = none := look_none (fun a ha => (hGm a ha).2)
  obtain ⟨H, hH⟩ : ∃ H, putF G ⟨more4, val, false, false⟩ = H := ⟨_, rfl⟩
  have eE : setF G more4 val = (H, 0) := by
    unfold setF
    rw [if_neg (by rw [hmn]; exact Bool.noConfusion), show lookV G more4 = ⟨more4, [], false, false⟩ from by unfold lookV; rw [hGo]; rfl, if_neg Bool.false_ne_true, if_neg (by omega), if_neg (by rw [hGl]; exact fun h => absurd h.2 (by decide)), ← hH]
  have hwH : WF H := by have := wf_set hwG more4 val; rw [eE] at this; exact this
  refine ⟨F, G, H, ?_, ?_, eC, hwF, eD, hwG, eE, hwH, ?_, ?_⟩
  · unfold setF
    rw [if_neg (by rw [hmn]; exact Bool.noConfusion), hmV, if_neg Bool.false_ne_true, if_neg (by omega), if_pos ⟨hmF, by rw [envK_len]; exact Nat.le_refl _⟩]
  · unfold markF
    rw [if_neg (by rw [hmn]; exact Bool.noConfusion), if_pos ⟨hmF, by rw [envK_len]; exact Nat.le_refl _⟩]
  · unfold foundB
    rw [← hH, put_look hwG.srt, if_neg (fun e => lts_ne (nm_ok hk).2 e), hGk]
    rfl
  · rw [← hH, put_len hwG.srt]
    show (if (lookF G more4).isSome = true then _ else _) = _
    rw [hGo, if_neg (by exact Bool.false_ne_true), hGl]

end Go.Proofs.YtdcfpklohleoiaaDoor
