/- Where the plain parser says no: a place in the text, and an error. -/
import Derived.Test.YtgpfjcogaheopaaQD
namespace Go.Proofs.Ytgpfjcogaheopaa
open Lx
set_option maxRecDepth 100000

structure T3 (L n : Nat) (ts : List Tok) : Prop where
  good : Good ts
  tw : TW ts
  at_ : ∀ t ∈ ts, t.a ≤ L
  len : ts.length ≤ n
def Bad (L : Nat) (a e : Int) : Prop := 0 ≤ a ∧ a ≤ L ∧ e ≠ 0
def Bd (L n : Nat) (f : Rdr) : Prop := ∀ ts ns a e, T3 L n ts → f ts ns = .bad a e → Bad L a e
def BdH (L n : Nat) (f : Rdr) : Prop := ∀ ts ns a e, T3 L n ts → cmpH ts = true → f ts ns = .bad a e → Bad L a e
theorem bind_bad {α β : Type} {r : PR α} {f : α → List Tok → List Nd → PR β} {a e : Int} (h : r.bind f = .bad a e) : r = .bad a e ∨ ∃ x ts ns, r = .ok x ts ns ∧ f x ts ns = .bad a e := by
  cases r with
  | ok x ts ns => exact .inr ⟨x, ts, ns, rfl, h⟩
  | bad a1 e1 =>
    have h1 : (PR.bad a1 e1 : PR β) = .bad a e := h
    injection h1 with h1 h2
    subst h1 h2
    exact .inl rfl
variable {L n : Nat}
theorem T3.step {ts t1 : List Tok} (h : T3 L n ts) (hg : Good t1) (hs : ∀ t ∈ t1, t ∈ ts) (hl : t1.length ≤ ts.length) : T3 L n t1 := ⟨hg, h.tw.sub hs, fun t ht => h.at_ t (hs t ht), Nat.le_trans hl h.len⟩
theorem T3.is {ts : List Tok} {s : List UInt8} (h : T3 L n ts) (hb : isB ts s = true) : T3 L n ts.tail ∧ ts.tail.length + 1 = ts.length := by
  have := is_tail h.good hb
  exact ⟨h.step this.1 (fun _ h => List.mem_of_mem_tail h) (by omega), this.2⟩
theorem T3.take {ts : List Tok} {s : List UInt8} (h : T3 L n ts) : T3 L n (takeT ts s) ∧ (takeT ts s).length ≤ ts.length := by
  unfold takeT
  split
  · have := h.is (by assumption)
    exact ⟨this.1, by omega⟩
  · exact ⟨h, Nat.le_refl _⟩
theorem T3.breaks {ts : List Tok} (h : T3 L n ts) : T3 L n (breaksF ts) ∧ (breaksF ts).length ≤ ts.length := by
  have := breaks_good h.good
  exact ⟨h.step this.1 (Sg.breaks (ns := []) ts).sub this.2, this.2⟩
theorem T3.tail {t : Tok} {r : List Tok} (h : T3 L n (t :: r)) (hk : t.k ≠ 4) : T3 L n r := h.step (h.good.tail hk) (fun _ h => List.mem_cons_of_mem _ h) (by simp)
theorem T3.need {ts : List Tok} {ns : List Nd} {s : List UInt8} {u : Unit} {ts' : List Tok} {ns' : List Nd} (h : T3 L n ts) (he : needR s ts ns = .ok u ts' ns') : T3 L n ts' ∧ ts'.length + 1 = ts.length ∧ ns' = ns := by
  obtain ⟨h1, h2, h3, h4, h5⟩ := need_ok h.good he
  subst h5
  exact ⟨(h.is h4).1, h2, h3⟩
theorem T3.read {c : Nat} {f : Rdr} {ts : List Tok} {ns : List Nd} {x : Int} {ts' : List Tok} {ns' : List Nd} (h : T3 L n ts) (hd : Dec c f) (hf : Fine f) (he : f ts ns = .ok x ts' ns') : T3 L n ts' ∧ ts'.length + 1 ≤ ts.length := by
  have d := hd _ _ _ _ _ h.good he
  have dl := d.len
  exact ⟨h.step d.good (hf _ _ _ _ _ h.good h.tw he).1.sub (by omega), dl⟩
theorem wrong_bad {α : Type} {ts : List Tok} {a e : Int} (h : T3 L n ts) (he : (wrongR ts : PR α) = .bad a e) : Bad L a e := by
  obtain ⟨t, r, rfl⟩ := h.good.ne
  unfold wrongR at he
  injection he with h1 h2
  have := h.at_ t (List.mem_cons_self ..)
  subst h1 h2
  exact ⟨by omega, by omega, by split <;> decide⟩
theorem need_bad {s : List UInt8} {ts : List Tok} {ns : List Nd} {a e : Int} (h : T3 L n ts) (he : needR s ts ns = .bad a e) : Bad L a e := by
  unfold needR at he
  split at he
  · cases he
  · exact wrong_bad h he
theorem lay_bad {n : Nd} {ts : List Tok} {ns : List Nd} {a e : Int} {p : Prop} (h : layR n ts ns = .bad a e) : p := by
  unfold layR at h
  cases h
theorem list_loop_bd {item : Rdr} (hd : Dec 3 item) (hi : Fine item) (hb : Bd L n item) : ∀ (f : Nat) (kids : List Int) (back : Bool) (ts : List Tok) (ns : List Nd) (a e : Int), T3 L n ts → ts.length < f → listL item f kids back ts ns = .bad a e → Bad L a e := by
  intro f
  induction f with
  | zero => intro kids back ts ns a e _ hl _; omega
  | succ f ih =>
    intro kids back ts ns a e ht hl h
    rw [listL] at h
    rcases bind_bad h with e1 | ⟨x, t1, n1, e1, h2⟩
    · exact hb _ _ _ _ ht e1
    · clear h
      obtain ⟨ht1, hl1⟩ := ht.read hd hi e1
      simp only [] at h2
      by_cases ha : isB t1 sAmp = true
      · have hk : takeT t1 sAmp = t1.tail := if_pos ha
        obtain ⟨ht2, hl2⟩ := ht1.is ha
        obtain ⟨ht3, hl3⟩ := ht2.breaks
        simp only [ha, hk, Bool.true_or, if_true] at h2
        by_cases hbg : beginsB (breaksF t1.tail) = true
        · rw [if_pos hbg] at h2
          exact ih _ _ _ _ _ _ ht3 (by omega) h2
        · rw [if_neg hbg] at h2
          cases h2
      · have ha : isB t1 sAmp = false := by simpa using ha
        have hk : takeT t1 sAmp = t1 := by unfold takeT; rw [ha]; rfl
        simp only [ha, hk, Bool.false_or] at h2
        by_cases hs : (isB t1 sSemi || isB t1 sLf) = true
        · simp only [hs, if_true] at h2
          have hT : T3 L n t1.tail ∧ t1.tail.length + 1 = t1.length := by
            rw [Bool.or_eq_true] at hs
            rcases hs with hs | hs
            · exact ht1.is hs
            · exact ht1.is hs
          obtain ⟨ht3, hl3⟩ := hT.1.breaks
          simp only [Bool.false_eq_true, if_false] at h2
          by_cases hbg : beginsB (breaksF t1.tail) = true
          · rw [if_pos hbg] at h2
            exact ih _ _ _ _ _ _ ht3 (by omega) h2
          · rw [if_neg hbg] at h2
            cases h2
        · have hs : (isB t1 sSemi || isB t1 sLf) = false := by simpa using hs
          simp only [hs, Bool.false_eq_true, if_false] at h2
          cases h2
theorem list_bd {item : Rdr} (hd : Dec 3 item) (hi : Fine item) (hb : Bd L n item) : Bd L n (listF item) := by
  intro ts ns a e ht h
  unfold listF at h
  obtain ⟨ht1, hl1⟩ := ht.breaks
  rcases bind_bad h with e1 | ⟨x, t1, n1, e1, h2⟩
  · exact list_loop_bd hd hi hb _ _ _ _ _ _ _ ht1 (by omega) e1
  · split at h2
    · split at h2
      · exact lay_bad h2
      · cases h2
    · exact lay_bad h2
theorem item_loop_bd {pipe : Rdr} (hd : Dec 3 pipe) (hi : Fine pipe) (hb : Bd L n pipe) : ∀ (f : Nat) (x : Int) (ts : List Tok) (ns : List Nd) (a e : Int), T3 L n ts → ts.length < f → itemL pipe f x ts ns = .bad a e → Bad L a e := by
  intro f
  induction f with
  | zero => intro x ts ns a e _ hl _; omega
  | succ f ih =>
    intro x ts ns a e ht hl h
    rw [itemL] at h
    have step : ∀ (s : List UInt8) (kd : Int), isB ts s = true → ((pipe (breaksF ts.tail) ns).bind fun y ts ns => itemL pipe f ns.length ts (ns ++ [{ kind := kd, kids := [x, y] }])) = .bad a e → Bad L a e := by
      intro s kd ha h
      obtain ⟨ht2, hl2⟩ := ht.is ha
      obtain ⟨ht3, hl3⟩ := ht2.breaks
      rcases bind_bad h with e1 | ⟨x, t1, n1, e1, h2⟩
      · exact hb _ _ _ _ ht3 e1
      · obtain ⟨ht4, hl4⟩ := ht3.read hd hi e1
        exact ih _ _ _ _ _ ht4 (by omega) h2
    split at h
    · rename_i ha
      exact step sAnd 4 ha h
    · split at h
      · rename_i ha
        exact step sOr 5 ha h
      · cases h
theorem item_bd {pipe : Rdr} (hd : Dec 3 pipe) (hi : Fine pipe) (hb : Bd L n pipe) : Bd L n (itemF pipe) := by
  intro ts ns a e ht h
  unfold itemF at h
  rcases bind_bad h with e1 | ⟨x, t1, n1, e1, h2⟩
  · exact hb _ _ _ _ ht e1
  · obtain ⟨ht4, hl4⟩ := ht.read hd hi e1
    exact item_loop_bd hd hi hb _ _ _ _ _ _ ht4 (by omega) h2
theorem pipe_loop_bd {cmd : Rdr} (hd : Dec 5 cmd) (hi : Fine cmd) (hb : Bd L n cmd) : ∀ (f : Nat) (kids : List Int) (ts : List Tok) (ns : List Nd) (a e : Int), T3 L n ts → ts.length < f → pipeL cmd f kids ts ns = .bad a e → Bad L a e := by
  intro f
  induction f with
  | zero => intro kids ts ns a e _ hl _; omega
  | succ f ih =>
    intro kids ts ns a e ht hl h
    rw [pipeL] at h
    split at h
    · rename_i ha
      obtain ⟨ht2, hl2⟩ := ht.is ha
      obtain ⟨ht3, hl3⟩ := ht2.breaks
      rcases bind_bad h with e1 | ⟨x, t1, n1, e1, h2⟩
      · exact hb _ _ _ _ ht3 e1
      · obtain ⟨ht4, hl4⟩ := ht3.read hd hi e1
        exact ih _ _ _ _ _ ht4 (by omega) h2
    · cases h
theorem not_bad {b : Bool} {x a e : Int} {ts : List Tok} {ns : List Nd} {p : Prop} (h : notR b x ts ns = .bad a e) : p := by
  unfold notR at h
  split at h
  · exact lay_bad h
  · cases h
theorem pipe_bd {cmd : Rdr} (hd : Dec 5 cmd) (hi : Fine cmd) (hb : Bd L n cmd) : Bd L n (pipeF cmd) := by
  intro ts ns a e ht h
  unfold pipeF at h
  obtain ⟨ht0, hl0⟩ := ht.take (s := wBang)
  rcases bind_bad h with e1 | ⟨x, t1, n1, e1, h2⟩
  · exact hb _ _ _ _ ht0 e1
  · obtain ⟨ht1, hl1⟩ := ht0.read hd hi e1
    rcases bind_bad h2 with e2 | ⟨k, t2, n2, e2, h3⟩
    · exact pipe_loop_bd hd hi hb _ _ _ _ _ _ ht1 (by omega) e2
    · split at h3
      · exact not_bad h3
      · exact not_bad h3
theorem redir_bd : ∀ (f : Nat) (acc : List Rd) (ts : List Tok) (ns : List Nd) (a e : Int), T3 L n ts → ts.length < f → redirL f acc ts ns = .bad a e → Bad L a e := by
  intro f
  induction f with
  | zero => intro acc ts ns a e _ hl _; omega
  | succ f ih =>
    intro acc ts ns a e ht hl h
    obtain ⟨t, r, rfl⟩ := ht.good.ne
    rw [redirL] at h
    simp only [List.length_cons] at hl
    split at h
    · rename_i h3
      rw [Bool.and_eq_true] at h3
      have hk : t.k = 3 := eq_of_beq h3.1
      have g1 := ht.tail (by omega)
      obtain ⟨o, r, rfl⟩ := g1.good.ne
      have ho : o.k = 2 := rdr_k h3.2
      have g2 := g1.tail (by omega)
      obtain ⟨w, r, rfl⟩ := g2.good.ne
      simp only [List.length_cons] at hl
      split at h
      · rename_i hwk
        have g3 := g2.tail (by intro e; simp [wkB, e] at hwk)
        exact ih _ _ _ _ _ g3 (by show r.length < f; omega) h
      · exact wrong_bad g2 h
    · split at h
      · rename_i h4
        have ho : t.k = 2 := rdr_k h4
        have g2 := ht.tail (by omega)
        obtain ⟨w, r, rfl⟩ := g2.good.ne
        simp only [List.length_cons] at hl
        split at h
        · rename_i hwk
          have g3 := g2.tail (by intro e; simp [wkB, e] at hwk)
          exact ih _ _ _ _ _ g3 (by show r.length < f; omega) h
        · exact wrong_bad g2 h
      · cases h
theorem redirF_bd {ts : List Tok} {ns : List Nd} {a e : Int} (ht : T3 L n ts) (h : redirF ts ns = .bad a e) : Bad L a e := redir_bd _ _ _ _ _ _ ht (Nat.lt_succ_self _) h
theorem T3.redir {ts : List Tok} {ns : List Nd} {l : List Rd} {ts' : List Tok} {ns' : List Nd} (ht : T3 L n ts) (h : redirF ts ns = .ok l ts' ns') : T3 L n ts' ∧ ts'.length ≤ ts.length := by
  obtain ⟨h1, h2, h3⟩ := redirF_good ht.good h
  exact ⟨ht.step h1 (redirF_fine ht.good ht.tw h).1 (by omega), by omega⟩
theorem sim_bd : ∀ (f : Nat) (m : Nd) (ts : List Tok) (ns : List Nd) (a e : Int), T3 L n ts → ts.length < f → simL f m ts ns = .bad a e → Bad L a e := by
  intro f
  induction f with
  | zero => intro m ts ns a e _ hl _; omega
  | succ f ih =>
    intro m ts ns a e ht hl h
    rw [simL] at h
    rcases bind_bad h with e1 | ⟨l, t1, n1, e1, h2⟩
    · exact redirF_bd ht e1
    · clear h
      obtain ⟨ht1, hl1⟩ := ht.redir e1
      obtain ⟨t, r, rfl⟩ := ht1.good.ne
      simp only [List.length_cons] at hl1
      simp only [] at h2
      split at h2
      · cases h2
      · rename_i hk
        have ht2 := ht1.tail (by omega)
        split at h2
        · exact ih _ _ _ _ _ ht2 (by omega) h2
        · split at h2
          · exact ih _ _ _ _ _ ht2 (by omega) h2
          · split at h2
            · cases h2
            · exact ih _ _ _ _ _ ht2 (by omega) h2
theorem simF_bd : Bd L n simF := by
  intro ts ns a e ht h
  unfold simF at h
  rcases bind_bad h with e1 | ⟨m, t1, n1, e1, h2⟩
  · exact sim_bd _ _ _ _ _ _ ht (Nat.lt_succ_self _) e1
  · have hg := sim_good _ _ _ _ _ _ _ ht.good e1
    have hs := sim_fine _ _ _ _ _ _ _ ht.good ht.tw e1
    split at h2
    · refine wrong_bad (n := t1.length) ⟨hg.1, ht.tw.sub hs.1, fun t h => ht.at_ t (hs.1 t h), Nat.le_refl _⟩ h2
    · exact lay_bad h2
theorem within_bd {f : Drd} {d : Nat} {ts : List Tok} {ns : List Nd} {a e : Int} (ht : T3 L n ts) (h : withinF f d ts ns = .bad a e) : Bad L a e ∨ f (d + 1) ts ns = .bad a e := by
  unfold withinF at h
  split at h
  · obtain ⟨t, r, rfl⟩ := ht.good.ne
    injection h with h1 h2
    have := ht.at_ t (List.mem_cons_self ..)
    refine .inl ?_
    simp only [] at h1
    subst h1 h2
    exact ⟨by omega, by omega, by decide⟩
  · exact .inr h
theorem within_yes {f : Drd} {d : Nat} {ts : List Tok} {ns : List Nd} {x : Int} {ts' : List Tok} {ns' : List Nd} (h : withinF f d ts ns = .ok x ts' ns') : f (d + 1) ts ns = .ok x ts' ns' := by
  unfold withinF at h
  split at h
  · cases h
  · exact h
theorem cmp_bd {core : Drd} (hd : DecD 5 core) (hc : ∀ d, FineC (core d)) (hb : ∀ d, BdH L n (core d)) (d : Nat) : BdH L n (cmpF core d) := by
  intro ts ns a e ht hh h
  unfold cmpF at h
  rcases bind_bad h with e1 | ⟨x, t1, n1, e1, h2⟩
  · rcases within_bd ht e1 with h3 | h3
    · exact h3
    · exact hb _ _ _ _ _ ht hh h3
  · have e2 := within_yes e1
    have dl := hd _ _ _ _ _ _ ht.good e2
    have dll := dl.len
    have s1 := (hc _ _ _ _ _ _ ht.good ht.tw hh e2).1
    have ht1 : T3 L n t1 := ht.step dl.good s1.sub (by omega)
    rcases bind_bad h2 with e3 | ⟨l, t2, n2, e3, h3⟩
    · exact redirF_bd ht1 e3
    · cases h3
theorem fun_bd {cmp : Drd} (hb : ∀ d, BdH L n (cmp d)) (d : Nat) {ts : List Tok} {ns : List Nd} {a e : Int} (ht : T3 L n ts) (hf : funB ts = true) (h : funF cmp d ts ns = .bad a e) : Bad L a e := by
  obtain ⟨t, r, rfl, hk, hr⟩ := fun_h hf
  unfold funF at h
  rw [List.tail_cons] at h
  have hgr := ht.tail (by omega)
  rcases bind_bad h with e1 | ⟨_, t1, n1, e1, h2⟩
  · exact need_bad hgr e1
  · obtain ⟨ht1, _, _⟩ := hgr.need e1
    rcases bind_bad h2 with e2 | ⟨_, t2, n2, e2, h3⟩
    · exact need_bad ht1 e2
    · obtain ⟨ht2, _, _⟩ := ht1.need e2
      have ht3 := ht2.breaks.1
      split at h3
      · rename_i hh
        rcases bind_bad h3 with e3 | ⟨_, t3, n3, e3, h4⟩
        · exact hb _ _ _ _ _ ht3 hh e3
        · exact lay_bad h4
      · exact wrong_bad ht3 h3
theorem cmd_bd {cmp : Drd} (hb : ∀ d, BdH L n (cmp d)) (d : Nat) : Bd L n (cmdF cmp d) := by
  intro ts ns a e ht h
  unfold cmdF at h
  split at h
  · exact hb d _ _ _ _ ht (by assumption) h
  · split at h
    · rename_i hf
      rcases within_bd ht h with h3 | h3
      · exact h3
      · exact fun_bd hb _ ht hf h3
    · exact simF_bd _ _ _ _ ht h
theorem lst_bd {cmp : Drd} (hd : DecD 5 cmp) (hc : ∀ d, FineH (cmp d)) (hb : ∀ d, BdH L n (cmp d)) (d : Nat) : Bd L n (lstF cmp d) :=
  list_bd (item_dec (pipe_dec (cmd_dec hd d))) (item_fine (pipe_dec (cmd_dec hd d)) (pipe_fine (cmd_dec hd d) (cmd_fine hd hc d)))
    (item_bd (pipe_dec (cmd_dec hd d)) (pipe_fine (cmd_dec hd d) (cmd_fine hd hc d)) (pipe_bd (cmd_dec hd d) (cmd_fine hd hc d) (cmd_bd hb d)))
theorem ifs_bd {lst : Rdr} (hd : Dec 2 lst) (hi : Fine lst) (hb : Bd L n lst) : ∀ (f : Nat) (ts : List Tok) (ns : List Nd) (a e : Int), T3 L n ts → ts.length < f → ifsF lst f ts ns = .bad a e → Bad L a e := by
  intro f
  induction f with
  | zero => intro ts ns a e _ hl _; omega
  | succ f ih =>
    intro ts ns a e ht hl h
    rw [ifsF] at h
    rcases bind_bad h with e1 | ⟨x, t1, n1, e1, h2⟩
    · exact hb _ _ _ _ ht e1
    clear h
    obtain ⟨ht1, hl1⟩ := ht.read hd hi e1
    rcases bind_bad h2 with e2 | ⟨_, t2, n2, e2, h3⟩
    · exact need_bad ht1 e2
    clear h2
    obtain ⟨ht2, hl2, _⟩ := ht1.need e2
    rcases bind_bad h3 with e3 | ⟨y, t3, n3, e3, h⟩
    · exact hb _ _ _ _ ht2 e3
    clear h3
    obtain ⟨ht3, hl3⟩ := ht2.read hd hi e3
    split at h
    · rename_i hel
      obtain ⟨ht4, hl4⟩ := ht3.is hel
      rcases bind_bad h with e4 | ⟨_, t4, n4, e4, h4⟩
      · exact ih _ _ _ _ ht4 (by omega) e4
      · exact lay_bad h4
    · split at h
      · rename_i hel
        obtain ⟨ht4, hl4⟩ := ht3.is hel
        rcases bind_bad h with e4 | ⟨_, t4, n4, e4, h4⟩
        · exact hb _ _ _ _ ht4 e4
        · obtain ⟨ht5, _⟩ := ht4.read hd hi e4
          rcases bind_bad h4 with e5 | ⟨_, t5, n5, e5, h5⟩
          · exact need_bad ht5 e5
          · exact lay_bad h5
      · rcases bind_bad h with e5 | ⟨_, t5, n5, e5, h5⟩
        · exact need_bad ht3 e5
        · exact lay_bad h5
theorem T3.words {ts : List Tok} (ht : T3 L n ts) : T3 L n (wordsR ts) := by
  have h1 := words_good ht.good
  exact ht.step h1.1 (words_fine ts).1 (by omega)
theorem fors_bd {ts : List Tok} {ns : List Nd} {a e : Int} (ht : T3 L n ts) (h : forsF ts ns = .bad a e) : Bad L a e := by
  obtain ⟨t, r, rfl⟩ := ht.good.ne
  unfold forsF at h
  simp only [] at h
  split at h
  · rename_i hnm
    have hk := named_k hnm
    have ht1 := (ht.tail (by omega)).breaks.1
    split at h
    · rename_i hin
      have ht2 := (ht1.is hin).1.words
      split at h
      · rename_i hs
        have ht3 : T3 L n (wordsR (breaksF r).tail).tail := by
          rw [Bool.or_eq_true] at hs
          rcases hs with hs | hs
          · exact (ht2.is hs).1
          · exact (ht2.is hs).1
        rcases bind_bad h with e5 | ⟨_, t5, n5, e5, h5⟩
        · exact need_bad ht3.breaks.1 e5
        · cases h5
      · exact wrong_bad ht2 h
    · rcases bind_bad h with e5 | ⟨_, t5, n5, e5, h5⟩
      · exact need_bad (ht1.take (s := sSemi)).1.breaks.1 e5
      · cases h5
  · exact wrong_bad ht h
theorem any_bd {ts : List Tok} {ns : List Nd} {a e : Int} (ht : T3 L n ts) (h : anyR ts ns = .bad a e) : Bad L a e := by
  obtain ⟨t, r, rfl⟩ := ht.good.ne
  unfold anyR at h
  simp only [] at h
  split at h
  · cases h
  · exact wrong_bad ht h
theorem T3.any {ts : List Tok} {ns : List Nd} {s : List UInt8} {ts' : List Tok} {ns' : List Nd} (ht : T3 L n ts) (h : anyR ts ns = .ok s ts' ns') : T3 L n ts' ∧ ts'.length + 1 = ts.length := by
  obtain ⟨h1, h2, _, _⟩ := any_ok ht.good h
  exact ⟨ht.step h1 (any_fine h).1 (by omega), h2⟩
theorem pats_bd : ∀ (f : Nat) (acc : List (List UInt8)) (ts : List Tok) (ns : List Nd) (a e : Int), T3 L n ts → ts.length < f → patsL f acc ts ns = .bad a e → Bad L a e := by
  intro f
  induction f with
  | zero => intro acc ts ns a e _ hl _; omega
  | succ f ih =>
    intro acc ts ns a e ht hl h
    rw [patsL] at h
    split at h
    · rename_i hb
      obtain ⟨ht1, hl1⟩ := ht.is hb
      rcases bind_bad h with e1 | ⟨s, t1, n1, e1, h2⟩
      · exact any_bd ht1 e1
      · obtain ⟨ht2, hl2⟩ := ht1.any e1
        exact ih _ _ _ _ _ ht2 (by omega) h2
    · cases h
theorem T3.pats {f : Nat} {acc : List (List UInt8)} {ts : List Tok} {ns : List Nd} {l : List (List UInt8)} {ts' : List Tok} {ns' : List Nd} (ht : T3 L n ts) (h : patsL f acc ts ns = .ok l ts' ns') : T3 L n ts' ∧ ts'.length ≤ ts.length := by
  obtain ⟨h1, _, _, h4⟩ := pats_ok _ _ _ _ _ _ _ ht.good h
  exact ⟨ht.step h1 (pats_fine _ _ _ _ _ _ _ ht.good ht.tw h).1 h4, h4⟩
theorem case_bd {lst : Rdr} (hd : Dec 2 lst) (hi : Fine lst) (hb : Bd L n lst) : ∀ (f : Nat) (m : Nd) (ts : List Tok) (ns : List Nd) (a e : Int), T3 L n ts → ts.length < f → caseL lst f m ts ns = .bad a e → Bad L a e := by
  intro f
  induction f with
  | zero => intro m ts ns a e _ hl _; omega
  | succ f ih =>
    intro m ts ns a e ht hl h
    rw [caseL] at h
    split at h
    · cases h
    · have gp := par_good ht.good
      have pc := par_cnt ht.tw
      have htp : T3 L n (if sgnB ts sPar = true then ts.tail else ts) := ht.step gp.1 pc.1 gp.2
      rcases bind_bad h with e1 | ⟨s, t1, n1, e1, h2⟩
      · exact any_bd htp e1
      clear h
      obtain ⟨ht1, hl1⟩ := htp.any e1
      have hlp := gp.2
      rcases bind_bad h2 with e2 | ⟨p, t2, n2, e2, h3⟩
      · exact pats_bd _ _ _ _ _ _ ht1 (by omega) e2
      clear h2
      obtain ⟨ht2, hl2⟩ := ht1.pats e2
      rcases bind_bad h3 with e3 | ⟨_, t3, n3, e3, h4⟩
      · exact need_bad ht2 e3
      clear h3
      obtain ⟨ht3, hl3, _⟩ := ht2.need e3
      obtain ⟨htb, hlb⟩ := ht3.breaks
      rcases bind_bad h4 with e4 | ⟨x, t4, n4, e4, h⟩
      · split at e4
        · exact hb _ _ _ _ htb e4
        · cases e4
      clear h4
      have h4 : T3 L n t4 ∧ t4.length ≤ t3.length := by
        split at e4
        · obtain ⟨q1, q2⟩ := htb.read hd hi e4
          exact ⟨q1, by omega⟩
        · injection e4 with h1 h2 h3
          subst h1 h2 h3
          exact ⟨htb, hlb⟩
      split at h
      · rename_i hs2
        obtain ⟨ht5, hl5⟩ := h4.1.is hs2
        obtain ⟨ht6, hl6⟩ := ht5.breaks
        exact ih _ _ _ _ _ ht6 (by omega) h
      · cases h
theorem caseF_bd {lst : Rdr} (hd : Dec 2 lst) (hi : Fine lst) (hb : Bd L n lst) {ts : List Tok} {ns : List Nd} {a e : Int} (ht : T3 L n ts) (h : caseF lst ts ns = .bad a e) : Bad L a e := by
  unfold caseF at h
  rcases bind_bad h with e1 | ⟨s, t1, n1, e1, h2⟩
  · exact any_bd ht e1
  clear h
  have ht1 := (ht.any e1).1.breaks.1
  rcases bind_bad h2 with e3 | ⟨_, t3, n3, e3, h3⟩
  · exact need_bad ht1 e3
  clear h2
  obtain ⟨ht3, _, _⟩ := ht1.need e3
  obtain ⟨ht4, hl4⟩ := ht3.breaks
  rcases bind_bad h3 with e4 | ⟨m, t4, n4, e4, h4⟩
  · exact case_bd hd hi hb _ _ _ _ _ _ ht4 (by omega) e4
  clear h3
  obtain ⟨g4, l4, _, _⟩ := case_loop hd _ _ _ _ _ _ _ ht4.good e4
  obtain ⟨r1, _⟩ := case_fine hd hi _ _ _ _ _ _ _ ht4.good ht4.tw e4
  rcases bind_bad h4 with e5 | ⟨_, t5, n5, e5, h5⟩
  · exact need_bad (ht4.step g4 r1 l4) e5
  · cases h5
theorem coreS_bd {lst : Rdr} (hd : Dec 2 lst) (hi : Fine lst) (hb : Bd L n lst) (s : List UInt8) {ts : List Tok} {ns : List Nd} {a e : Int} (ht : T3 L n ts) (h : coreS lst s ts ns = .bad a e) : Bad L a e := by
  have one : ∀ (kd : Int) (c : List UInt8), ((lst ts ns).bind fun x ts ns => (needR c ts ns).bind fun _ ts ns => layR { kind := kd, kids := [x] } ts ns) = .bad a e → Bad L a e := by
    intro kd c h
    rcases bind_bad h with e1 | ⟨y, t1, n1, e1, h2⟩
    · exact hb _ _ _ _ ht e1
    · obtain ⟨ht1, _⟩ := ht.read hd hi e1
      rcases bind_bad h2 with e5 | ⟨_, t5, n5, e5, h5⟩
      · exact need_bad ht1 e5
      · exact lay_bad h5
  unfold coreS at h
  split at h
  · exact one 8 wClose h
  · split at h
    · exact one 9 sRap h
    · split at h
      · exact ifs_bd hd hi hb _ _ _ _ _ ht (Nat.lt_succ_self _) h
      · split at h
        · rcases bind_bad h with e1 | ⟨m, t1, n1, e1, h2⟩
          · exact fors_bd ht e1
          · obtain ⟨g1, l1, hn1⟩ := fors_ok ht.good e1
            obtain ⟨f1, _⟩ := fors_fine ht.good ht.tw e1
            have ht1 : T3 L n t1 := ht.step g1 f1 (by omega)
            rcases bind_bad h2 with e2 | ⟨y, t2, n2, e2, h3⟩
            · exact hb _ _ _ _ ht1 e2
            · obtain ⟨ht2, _⟩ := ht1.read hd hi e2
              rcases bind_bad h3 with e5 | ⟨_, t5, n5, e5, h5⟩
              · exact need_bad ht2 e5
              · exact lay_bad h5
        · split at h
          · rcases bind_bad h with e1 | ⟨m, t1, n1, e1, h2⟩
            · exact caseF_bd hd hi hb ht e1
            · exact lay_bad h2
          · rcases bind_bad h with e1 | ⟨y, t1, n1, e1, h2⟩
            · exact hb _ _ _ _ ht e1
            · obtain ⟨ht1, _⟩ := ht.read hd hi e1
              rcases bind_bad h2 with e2 | ⟨_, t2, n2, e2, h3⟩
              · exact need_bad ht1 e2
              · obtain ⟨ht2, _, _⟩ := ht1.need e2
                rcases bind_bad h3 with e3 | ⟨z, t3, n3, e3, h4⟩
                · exact hb _ _ _ _ ht2 e3
                · obtain ⟨ht3, _⟩ := ht2.read hd hi e3
                  rcases bind_bad h4 with e5 | ⟨_, t5, n5, e5, h5⟩
                  · exact need_bad ht3 e5
                  · exact lay_bad h5
theorem coreF_bd {lst : Drd} (hd : DecD 2 lst) (hi : ∀ d, Fine (lst d)) (hb : ∀ d, Bd L n (lst d)) (d : Nat) : BdH L (n + 1) (coreF lst d) := by
  intro ts ns a e ht hh h
  obtain ⟨t, r, rfl⟩ := ht.good.ne
  unfold coreF at h
  simp only [] at h
  have hk : t.k ≠ 4 := by
    have hc : cmpB t = true := hh
    unfold cmpB at hc
    simp only [Bool.or_eq_true, Bool.and_eq_true, beq_iff_eq] at hc
    omega
  rw [if_neg hk] at h
  have h1 := ht.tail hk
  have hl := ht.len
  simp only [List.length_cons] at hl
  exact coreS_bd (hd d) (hi d) (hb d) _ ⟨h1.good, h1.tw, h1.at_, by omega⟩ h
theorem core_bd (L : Nat) : ∀ f d, BdH L f (core f d)
  | 0, _ => fun ts _ _ _ ht _ _ => by
    have := ht.len
    have := ht.good.pos
    omega
  | f + 1, d => coreF_bd (lst_dec (cmp_dec (core_dec f))) (lst_fine (cmp_dec (core_dec f)) (cmp_fine (core_dec f) (core_fine f))) (lst_bd (cmp_dec (core_dec f)) (cmp_fine (core_dec f) (core_fine f)) (cmp_bd (core_dec f) (core_fine f) (core_bd L f))) d
theorem lst_bd_all (L f d : Nat) : Bd L f (lst f d) := lst_bd (cmp_dec (core_dec f)) (cmp_fine (core_dec f) (core_fine f)) (cmp_bd (core_dec f) (core_fine f) (core_bd L f)) d
theorem Toks.at_ {L : Nat} {ts : List Tok} (h : Toks L ts) : ∀ t ∈ ts, t.a ≤ L := fun t ht => by
  rcases h.w t ht with ⟨_, _, h3⟩ | hw
  · exact h3
  · exact hw.at_
theorem Toks.t3 {L : Nat} {ts : List Tok} (h : Toks L ts) : T3 L ts.length ts := ⟨h.good, h.tw, h.at_, Nat.le_refl _⟩
theorem parse_no {L : Nat} {ts : List Tok} (h : Toks L ts) (he : (parseT ts).e ≠ 0) : (parseT ts).ns = [] ∧ 0 ≤ (parseT ts).a ∧ (parseT ts).a ≤ L := by
  have gb := h.t3.breaks.1
  obtain ⟨t, r, hbr⟩ := gb.good.ne
  unfold parseT at he ⊢
  rw [hbr] at he gb ⊢
  simp only [] at he ⊢
  by_cases hk : t.k = 4
  · rw [if_pos hk] at he
    exact absurd rfl he
  · rw [if_neg hk] at he ⊢
    cases hl : lst ts.length 0 (t :: r) [] with
    | bad a e =>
      have := lst_bd_all L ts.length 0 _ _ _ _ gb hl
      exact ⟨rfl, this.1, this.2.1⟩
    | ok x t1 n1 =>
      have d := lst_left ts.length 0 _ _ _ _ _ gb.good hl
      obtain ⟨ht1, _⟩ := gb.read (lst_left ts.length 0) (lst_fine_all ts.length 0) hl
      obtain ⟨u, q, rfl⟩ := d.good.ne
      have := ht1.at_ u (List.mem_cons_self ..)
      rw [hl] at he
      simp only [] at he ⊢
      by_cases hu : u.k = 4
      · have hu' : ¬ u.k ≠ 4 := fun h => h hu
        rw [if_neg hu'] at he ⊢
        by_cases h3 : 300 < n1.length
        · rw [if_pos h3]
          exact ⟨rfl, Int.le_refl _, by show (0 : Int) ≤ _; omega⟩
        · rw [if_neg h3] at he
          exact absurd rfl he
      · rw [if_pos hu]
        exact ⟨rfl, by show (0 : Int) ≤ (u.a : Int); omega, by show (u.a : Int) ≤ _; omega⟩
theorem parse_yes {L : Nat} {ts : List Tok} (h : Toks L ts) (he : (parseT ts).e = 0) : Whole ts (parseT ts).ns := by
  refine parse_whole h.good h.tw he fun t r a e hbr hl => ?_
  have gb := h.t3.breaks.1
  rw [hbr] at gb
  exact (lst_bd_all L ts.length 0 _ _ _ _ gb hl).2.2
/-- All that is said of a text's nodes. -/
theorem parse_says (s : List UInt8) : ((parseF s).e ≠ 0 → (parseF s).ns = [] ∧ 0 ≤ (parseF s).a ∧ (parseF s).a ≤ s.length) ∧ ((parseF s).e = 0 → ∃ ts, allF s = .ok ts ∧ Whole ts (parseF s).ns) := by
  unfold parseF
  cases ha : allF s with
  | err a e =>
    obtain ⟨h1, h2, h3⟩ := all_e ha
    exact ⟨fun _ => ⟨rfl, h2, h3⟩, fun h => absurd h h1⟩
  | ok ts =>
    obtain ⟨_, ht⟩ := all_toks ha
    exact ⟨parse_no ht, fun h => ⟨ts, rfl, parse_yes ht h⟩⟩

end Go.Proofs.Ytgpfjcogaheopaa
