/- Several texts in one. -/
import Derived.Test.YtdhfhphbkfgamaaPB
import Derived.Test.YtdhfhphbkfgamaaQA
import Derived.Test.YtdhfhphbkfgamaaTQ
import Derived.Test.YtdhfhphbkfgamaaXL
section
/- What stands in the nodes of a text. -/
namespace Go.Proofs.Ytdhfhphbkfgamaa
open Lx
set_option maxRecDepth 100000

/-- Words' texts. -/
structure TkP (P : List UInt8 → Prop) (N : Nat) (ts : List Tok) : Prop where
  len : ts.length < N
  w : ∀ t ∈ ts, t.k = 1 ∨ t.k = 3 → P t.t
structure NdP (P : List UInt8 → Prop) (N : Nat) (m : Nd) : Prop where
  name : P m.name
  sets : ∀ s ∈ m.sets, P s
  words : ∀ s ∈ m.words, P s
  redirs : ∀ r ∈ m.redirs, r.op ∈ rdrW ∧ P r.wd
  pats : m.pats.length ≤ N + 1 ∧ ∀ p ∈ m.pats, p.length ≤ N + 1 ∧ ∀ s ∈ p, P s
  kids : m.kids.length ≤ N + 1
def NsP (P : List UInt8 → Prop) (N : Nat) (ns : List Nd) : Prop := ∀ m ∈ ns, NdP P N m
variable {P : List UInt8 → Prop} {N : Nat}
def RP (P : List UInt8 → Prop) (N : Nat) (f : Rdr) : Prop := ∀ ts ns x ts' ns', TkP P N ts → NsP P N ns → f ts ns = .ok x ts' ns' → TkP P N ts' ∧ NsP P N ns'
theorem TkP.tail {ts : List Tok} (h : TkP P N ts) : TkP P N ts.tail :=
  ⟨by have := h.len; rw [List.length_tail]; omega, fun t ht => h.w t (List.mem_of_mem_tail ht)⟩
theorem TkP.of_cons {t : Tok} {r : List Tok} (h : TkP P N (t :: r)) : TkP P N r := h.tail
theorem TkP.breaks : ∀ {ts : List Tok}, TkP P N ts → TkP P N (breaksF ts)
  | [], h => h
  | t :: r, h => by
    rw [breaksF]
    split
    · exact TkP.breaks h.of_cons
    · exact h
theorem TkP.take {ts : List Tok} (h : TkP P N ts) (s : List UInt8) : TkP P N (takeT ts s) := by
  unfold takeT
  split
  · exact h.tail
  · exact h
theorem need_p {s : List UInt8} {ts : List Tok} {ns : List Nd} {u : Unit} {ts' : List Tok} {ns' : List Nd} (h : needR s ts ns = .ok u ts' ns') : ts' = ts.tail ∧ ns' = ns := by
  unfold needR at h
  split at h
  · injection h with _ h2 h3
    exact ⟨h2.symm, h3.symm⟩
  · exact (wrong_ok h).elim
theorem NsP.lay {ns : List Nd} {m : Nd} (h : NsP P N ns) (hm : NdP P N m) : NsP P N (ns ++ [m]) := by
  intro u hu
  rw [List.mem_append, List.mem_singleton] at hu
  rcases hu with hu | rfl
  · exact h u hu
  · exact hm
theorem kd_p (h0 : P []) {k : Int} {l : List Int} (hl : l.length ≤ N + 1) : NdP P N { kind := k, kids := l } :=
  ⟨h0, fun _ h => (by cases h), fun _ h => (by cases h), fun _ h => (by cases h), ⟨Nat.zero_le _, fun _ h => (by cases h)⟩, hl⟩
theorem lay_p {m : Nd} {ts : List Tok} {ns : List Nd} {x : Int} {ts' : List Tok} {ns' : List Nd} (ht : TkP P N ts) (h : NsP P N ns) (hm : NdP P N m) (he : layR m ts ns = .ok x ts' ns') : TkP P N ts' ∧ NsP P N ns' := by
  obtain ⟨_, rfl, rfl⟩ := lay_ok he
  exact ⟨ht, h.lay hm⟩
theorem list_loop_p (h0 : P []) (h3 : 3 ≤ N) {item : Rdr} (hb : RP P N item) : ∀ (f : Nat) (kids : List Int) (back : Bool) (ts : List Tok) (ns : List Nd) (k : List Int × Bool) (ts' : List Tok) (ns' : List Nd), TkP P N ts → NsP P N ns → listL item f kids back ts ns = .ok k ts' ns' → TkP P N ts' ∧ NsP P N ns' ∧ k.1.length ≤ kids.length + f := by
  intro f
  induction f with
  | zero => intro kids back ts ns k ts' ns' _ _ h; cases h
  | succ f ih =>
    intro kids back ts ns k ts' ns' ht hp h
    rw [listL] at h
    obtain ⟨x, t1, n1, e1, hh⟩ := bind_eq h; clear h; have h := hh; clear hh
    obtain ⟨ht1, hp1⟩ := hb _ _ _ _ _ ht hp e1
    have hp2 : NsP P N (n1 ++ [{ kind := 7, kids := [x] }]) := hp1.lay (kd_p h0 (by show 1 ≤ N + 1; omega))
    have fin : ∀ {y : Int} {a : Bool} {t : List Tok} {n : List Nd}, TkP P N t → NsP P N n → PR.ok (kids ++ [y], a) t n = PR.ok k ts' ns' → TkP P N ts' ∧ NsP P N ns' ∧ k.1.length ≤ kids.length + (f + 1) := by
      intro y a t n ht hn h
      injection h with h1 h2 h3
      subst h1 h2 h3
      exact ⟨ht, hn, by show (kids ++ [y]).length ≤ _; rw [List.length_append, List.length_singleton]; omega⟩
    have go : ∀ {y : Int} {a : Bool} {t : List Tok} {n : List Nd}, TkP P N t → NsP P N n → listL item f (kids ++ [y]) a t n = PR.ok k ts' ns' → TkP P N ts' ∧ NsP P N ns' ∧ k.1.length ≤ kids.length + (f + 1) := by
      intro y a t n ht hn h
      obtain ⟨a1, a2, a3⟩ := ih _ _ _ _ _ _ _ ht hn h
      rw [List.length_append, List.length_singleton] at a3
      exact ⟨a1, a2, by omega⟩
    simp only [] at h
    have hT : TkP P N (takeT t1 sAmp) := ht1.take _
    by_cases ha : isB t1 sAmp = true
    · simp only [ha, Bool.true_or, if_true] at h
      split at h
      · exact go hT.breaks hp2 h
      · exact fin hT.breaks hp2 h
    · have ha : isB t1 sAmp = false := by simpa using ha
      simp only [ha, Bool.false_or, Bool.false_eq_true, if_false] at h
      split at h
      · split at h
        · exact go hT.tail.breaks hp1 h
        · exact fin hT.tail.breaks hp1 h
      · exact fin hT hp1 h
theorem list_p (h0 : P []) (h3 : 3 ≤ N) {item : Rdr} (hb : RP P N item) : RP P N (listF item) := by
  intro ts ns x ts' ns' ht hp h
  unfold listF at h
  obtain ⟨k, t1, n1, e1, hh⟩ := bind_eq h; clear h; have h := hh; clear hh
  obtain ⟨ht1, hp1, hk⟩ := list_loop_p h0 h3 hb _ _ _ _ _ _ _ _ ht.breaks hp e1
  have hl := ht.len
  rw [List.length_nil] at hk
  split at h
  · split at h
    · exact lay_p ht1.breaks hp1 (kd_p h0 (by simp)) h
    · injection h with h1 h2 h3
      subst h2 h3
      exact ⟨ht1.breaks, hp1⟩
  · exact lay_p ht1.breaks hp1 (kd_p h0 (by omega)) h
theorem item_loop_p (h0 : P []) (h3 : 3 ≤ N) {pipe : Rdr} (hb : RP P N pipe) : ∀ (f : Nat) (x : Int) (ts : List Tok) (ns : List Nd) (y : Int) (ts' : List Tok) (ns' : List Nd), TkP P N ts → NsP P N ns → itemL pipe f x ts ns = .ok y ts' ns' → TkP P N ts' ∧ NsP P N ns' := by
  intro f
  induction f with
  | zero => intro x ts ns y ts' ns' _ _ h; cases h
  | succ f ih =>
    intro x ts ns y ts' ns' ht hp h
    rw [itemL] at h
    have step : ∀ (kd : Int), ((pipe (breaksF ts.tail) ns).bind fun y ts ns => itemL pipe f ns.length ts (ns ++ [{ kind := kd, kids := [x, y] }])) = .ok y ts' ns' → TkP P N ts' ∧ NsP P N ns' := by
      intro kd h
      obtain ⟨z, t1, n1, e1, hh⟩ := bind_eq h; clear h; have h := hh; clear hh
      obtain ⟨a, b⟩ := hb _ _ _ _ _ ht.tail.breaks hp e1
      exact ih _ _ _ _ _ _ a (b.lay (kd_p h0 (by simp; omega))) h
    split at h
    · exact step 4 h
    · split at h
      · exact step 5 h
      · injection h with h1 h2 h3
        subst h2 h3
        exact ⟨ht, hp⟩
theorem item_p (h0 : P []) (h3 : 3 ≤ N) {pipe : Rdr} (hb : RP P N pipe) : RP P N (itemF pipe) := by
  intro ts ns x ts' ns' ht hp h
  unfold itemF at h
  obtain ⟨z, t1, n1, e1, hh⟩ := bind_eq h; clear h; have h := hh; clear hh
  obtain ⟨a, b⟩ := hb _ _ _ _ _ ht hp e1
  exact item_loop_p h0 h3 hb _ _ _ _ _ _ _ a b h
theorem pipe_loop_p {cmd : Rdr} (hb : RP P N cmd) : ∀ (f : Nat) (kids : List Int) (ts : List Tok) (ns : List Nd) (k : List Int) (ts' : List Tok) (ns' : List Nd), TkP P N ts → NsP P N ns → pipeL cmd f kids ts ns = .ok k ts' ns' → TkP P N ts' ∧ NsP P N ns' ∧ k.length + 1 ≤ kids.length + f := by
  intro f
  induction f with
  | zero => intro kids ts ns k ts' ns' _ _ h; cases h
  | succ f ih =>
    intro kids ts ns k ts' ns' ht hp h
    rw [pipeL] at h
    split at h
    · obtain ⟨z, t1, n1, e1, hh⟩ := bind_eq h; clear h; have h := hh; clear hh
      obtain ⟨a, b⟩ := hb _ _ _ _ _ ht.tail.breaks hp e1
      obtain ⟨a1, a2, a3⟩ := ih _ _ _ _ _ _ a b h
      rw [List.length_append, List.length_singleton] at a3
      exact ⟨a1, a2, by omega⟩
    · injection h with h1 h2 h3
      subst h1 h2 h3
      exact ⟨ht, hp, by omega⟩
theorem not_p (h0 : P []) {b : Bool} {x y : Int} {ts ts' : List Tok} {ns ns' : List Nd} (ht : TkP P N ts) (hp : NsP P N ns) (h : notR b x ts ns = .ok y ts' ns') : TkP P N ts' ∧ NsP P N ns' := by
  unfold notR at h
  split at h
  · exact lay_p ht hp (kd_p h0 (by simp)) h
  · injection h with h1 h2 h3
    subst h2 h3
    exact ⟨ht, hp⟩
theorem pipe_p (h0 : P []) {cmd : Rdr} (hb : RP P N cmd) : RP P N (pipeF cmd) := by
  intro ts ns x ts' ns' ht hp h
  unfold pipeF at h
  obtain ⟨y, t1, n1, e1, hh⟩ := bind_eq h; clear h; have h := hh; clear hh
  obtain ⟨ht1, hp1⟩ := hb _ _ _ _ _ (ht.take _) hp e1
  obtain ⟨k, t2, n2, e2, hh⟩ := bind_eq h; clear h; have h := hh; clear hh
  obtain ⟨ht2, hp2, hk⟩ := pipe_loop_p hb _ _ _ _ _ _ _ ht1 hp1 e2
  have hl := ht1.len
  rw [List.length_singleton] at hk
  split at h
  · exact not_p h0 ht2 (hp2.lay (kd_p h0 (by omega))) h
  · exact not_p h0 ht2 hp2 h
def RdsP (P : List UInt8 → Prop) (l : List Rd) : Prop := ∀ r ∈ l, r.op ∈ rdrW ∧ P r.wd
theorem rdr_op {t : Tok} (h : rdrB t = true) : t.t ∈ rdrW := by
  unfold rdrB at h
  rw [Bool.and_eq_true] at h
  exact List.contains_iff_mem.1 h.2
theorem wk_p {ts : List Tok} (ht : TkP P N ts) (h : wkB ts = true) (d : Tok) : P (ts.headD d).t := by
  cases ts with
  | nil => cases h
  | cons w r =>
    unfold wkB at h
    rw [Bool.or_eq_true, beq_iff_eq, beq_iff_eq] at h
    exact ht.w w (List.mem_cons_self ..) h
theorem redir_p : ∀ (f : Nat) (acc : List Rd) (ts : List Tok) (ns : List Nd) (l : List Rd) (ts' : List Tok) (ns' : List Nd), TkP P N ts → RdsP P acc → redirL f acc ts ns = .ok l ts' ns' → TkP P N ts' ∧ ns' = ns ∧ RdsP P l := by
  intro f
  induction f with
  | zero => intro acc ts ns l ts' ns' _ _ h; cases h
  | succ f ih =>
    intro acc ts ns l ts' ns' ht ha h
    rw [redirL.eq_def] at h
    cases ts with
    | nil => cases h
    | cons t r =>
      simp only [] at h
      have snoc : ∀ {fd : Int} {op wd : List UInt8}, op ∈ rdrW → P wd → RdsP P (acc ++ [⟨fd, op, wd⟩]) := by
        intro fd op wd h1 h2 x hx
        rw [List.mem_append, List.mem_singleton] at hx
        rcases hx with hx | rfl
        · exact ha x hx
        · exact ⟨h1, h2⟩
      split at h
      · rename_i h1
        split at h
        · rename_i h2
          rw [Bool.and_eq_true] at h1
          exact ih _ _ _ _ _ _ ht.of_cons.tail.tail (snoc (rdr_op h1.2) (wk_p ht.of_cons.tail h2 _)) h
        · exact (wrong_ok h).elim
      · split at h
        · rename_i h1
          split at h
          · rename_i h2
            exact ih _ _ _ _ _ _ ht.of_cons.tail (snoc (rdr_op h1) (wk_p ht.of_cons h2 _)) h
          · exact (wrong_ok h).elim
        · injection h with h1 h2 h3
          subst h1 h2 h3
          exact ⟨ht, rfl, ha⟩
theorem redirF_p {ts : List Tok} {ns : List Nd} {l : List Rd} {ts' : List Tok} {ns' : List Nd} (ht : TkP P N ts) (h : redirF ts ns = .ok l ts' ns') : TkP P N ts' ∧ ns' = ns ∧ RdsP P l := redir_p _ _ _ _ _ _ _ ht (fun _ h => by cases h) h
theorem sim_p : ∀ (f : Nat) (m : Nd) (ts : List Tok) (ns : List Nd) (m' : Nd) (ts' : List Tok) (ns' : List Nd), TkP P N ts → NdP P N m → simL f m ts ns = .ok m' ts' ns' → TkP P N ts' ∧ ns' = ns ∧ NdP P N m' := by
  intro f
  induction f with
  | zero => intro m ts ns m' ts' ns' _ _ h; cases h
  | succ f ih =>
    intro m ts ns m' ts' ns' ht hm h
    rw [simL] at h
    obtain ⟨l, t1, n1, e1, hh⟩ := bind_eq h; clear h; have h := hh; clear hh
    obtain ⟨ht1, rfl, hl⟩ := redirF_p ht e1
    have hr : RdsP P (m.redirs ++ l) := by
      intro x hx
      rw [List.mem_append] at hx
      rcases hx with hx | hx
      · exact hm.redirs x hx
      · exact hl x hx
    have snoc : ∀ {l : List (List UInt8)} {s : List UInt8}, (∀ x ∈ l, P x) → P s → ∀ x ∈ l ++ [s], P x := by
      intro l s h1 h2 x hx
      rw [List.mem_append, List.mem_singleton] at hx
      rcases hx with hx | rfl
      · exact h1 x hx
      · exact h2
    simp only [] at h
    cases t1 with
    | nil => cases h
    | cons t r =>
      simp only [] at h
      have stay : PR.ok { m with redirs := m.redirs ++ l } (t :: r) n1 = PR.ok m' ts' ns' → TkP P N ts' ∧ ns' = n1 ∧ NdP P N m' := by
        intro h
        injection h with h1 h2 h3
        subst h1 h2 h3
        exact ⟨ht1, rfl, ⟨hm.name, hm.sets, hm.words, hr, hm.pats, hm.kids⟩⟩
      split at h
      · exact stay h
      · rename_i hk
        have hP : P t.t := ht1.w t (List.mem_cons_self ..) (.inl (by omega))
        split at h
        · exact ih _ _ _ _ _ _ ht1.of_cons (by constructor <;> first | exact hm.name | exact hm.pats | exact hm.kids | exact hr | exact snoc hm.words hP | exact snoc hm.sets hP | exact hm.words | exact hm.sets) h --hm.name, hm.sets, snoc hm.words hP, hr, hm.pats, hm.kids⟩)) h
        · split at h
          · exact ih _ _ _ _ _ _ ht1.of_cons (by constructor <;> first | exact hm.name | exact hm.pats | exact hm.kids | exact hr | exact snoc hm.words hP | exact snoc hm.sets hP | exact hm.words | exact hm.sets) h --hm.name, snoc hm.sets hP, hm.words, hr, hm.pats, hm.kids⟩)) h
          · split at h
            · exact stay h
            · exact ih _ _ _ _ _ _ ht1.of_cons (by constructor <;> first | exact hm.name | exact hm.pats | exact hm.kids | exact hr | exact snoc hm.words hP | exact snoc hm.sets hP | exact hm.words | exact hm.sets) h --hm.name, hm.sets, snoc hm.words hP, hr, hm.pats, hm.kids⟩)) h
theorem simF_p (h0 : P []) : RP P N simF := by
  intro ts ns x ts' ns' ht hp h
  unfold simF at h
  obtain ⟨m, t1, n1, e1, hh⟩ := bind_eq h; clear h; have h := hh; clear hh
  obtain ⟨ht1, rfl, hm⟩ := sim_p _ _ _ _ _ _ _ ht (⟨h0, fun _ h => (by cases h), fun _ h => (by cases h), fun _ h => (by cases h), ⟨Nat.zero_le _, fun _ h => (by cases h)⟩, Nat.zero_le _⟩ : NdP P N { kind := 1 }) e1
  split at h
  · exact (wrong_ok h).elim
  · exact lay_p ht1 hp hm h
theorem within_p {f : Drd} (hb : ∀ d, RP P N (f d)) (d : Nat) : RP P N (withinF f d) := by
  intro ts ns x ts' ns' ht hp h
  unfold withinF at h
  split at h
  · cases h
  · exact hb _ _ _ _ _ _ ht hp h
theorem set_p {ns : List Nd} {x : Int} {l : List Rd} (h : NsP P N ns) (hl : RdsP P l) : NsP P N (setRd ns x l) := by
  intro m hm
  unfold setRd at hm
  obtain ⟨i, hi, hmi⟩ := List.mem_iff_getElem.1 hm
  rw [List.getElem_modify] at hmi
  rw [List.length_modify] at hi
  split at hmi
  · have := h _ (List.getElem_mem hi)
    subst hmi
    exact ⟨this.name, this.sets, this.words, hl, this.pats, this.kids⟩
  · subst hmi
    exact h _ (List.getElem_mem hi)
theorem cmp_p {core : Drd} (hb : ∀ d, RP P N (core d)) (d : Nat) : RP P N (cmpF core d) := by
  intro ts ns x ts' ns' ht hp h
  unfold cmpF at h
  obtain ⟨y, t1, n1, e1, hh⟩ := bind_eq h; clear h; have h := hh; clear hh
  obtain ⟨ht1, hp1⟩ := within_p hb d _ _ _ _ _ ht hp e1
  obtain ⟨l, t2, n2, e2, hh⟩ := bind_eq h; clear h; have h := hh; clear hh
  obtain ⟨ht2, rfl, hl⟩ := redirF_p ht1 e2
  injection h with h1 h2 h3
  subst h2 h3
  exact ⟨ht2, set_p hp1 hl⟩
theorem named_p {t : Tok} {r : List Tok} (ht : TkP P N (t :: r)) (h : namedB t = true) : P t.t := by
  unfold namedB at h
  rw [Bool.and_eq_true, beq_iff_eq] at h
  exact ht.w t (List.mem_cons_self ..) (.inl h.1)
theorem fun_p {cmp : Drd} (hb : ∀ d, RP P N (cmp d)) (d : Nat) (ts : List Tok) (hnm : P (nmH ts)) {ns : List Nd} {x : Int} {ts' : List Tok} {ns' : List Nd} (h0 : P []) (ht : TkP P N ts) (hp : NsP P N ns) (h : funF cmp d ts ns = .ok x ts' ns') : TkP P N ts' ∧ NsP P N ns' := by
  unfold funF at h
  obtain ⟨_, t1, n1, e1, hh⟩ := bind_eq h; clear h; have h := hh; clear hh
  obtain ⟨rfl, rfl⟩ := need_p e1
  obtain ⟨_, t2, n2, e2, hh⟩ := bind_eq h; clear h; have h := hh; clear hh
  obtain ⟨rfl, rfl⟩ := need_p e2
  split at h
  · obtain ⟨y, t3, n3, e3, hh⟩ := bind_eq h; clear h; have h := hh; clear hh
    obtain ⟨ht3, hp3⟩ := hb _ _ _ _ _ _ ht.tail.tail.tail.breaks hp e3
    exact lay_p ht3 hp3 ⟨hnm, fun _ h => (by cases h), fun _ h => (by cases h), fun _ h => (by cases h), ⟨Nat.zero_le _, fun _ h => (by cases h)⟩, by simp⟩ h
  · exact (wrong_ok h).elim
theorem cmd_p (h0 : P []) {cmp : Drd} (hb : ∀ d, RP P N (cmp d)) (d : Nat) : RP P N (cmdF cmp d) := by
  intro ts ns x ts' ns' ht hp h
  unfold cmdF at h
  split at h
  · exact hb d _ _ _ _ _ ht hp h
  · split at h
    · rename_i hf
      have hnm : P (nmH ts) := by
        unfold funB at hf
        split at hf
        · simp only [Bool.and_eq_true] at hf
          exact named_p ht hf.1.1.1
        · cases hf
      unfold withinF at h
      split at h
      · cases h
      · exact fun_p hb _ ts hnm h0 ht hp h
    · exact simF_p h0 _ _ _ _ _ ht hp h
theorem lst_p (h0 : P []) (h3 : 3 ≤ N) {cmp : Drd} (hb : ∀ d, RP P N (cmp d)) (d : Nat) : RP P N (lstF cmp d) := list_p h0 h3 (item_p h0 h3 (pipe_p h0 (cmd_p h0 hb d)))
theorem ifs_p (h0 : P []) (h3 : 3 ≤ N) {lst : Rdr} (hb : RP P N lst) : ∀ (f : Nat) (ts : List Tok) (ns : List Nd) (x : Int) (ts' : List Tok) (ns' : List Nd), TkP P N ts → NsP P N ns → ifsF lst f ts ns = .ok x ts' ns' → TkP P N ts' ∧ NsP P N ns' := by
  intro f
  induction f with
  | zero => intro ts ns x ts' ns' _ _ h; cases h
  | succ f ih =>
    intro ts ns x ts' ns' ht hp h
    rw [ifsF] at h
    obtain ⟨a, t1, n1, e1, hh⟩ := bind_eq h; clear h; have h := hh; clear hh
    obtain ⟨ht1, hp1⟩ := hb _ _ _ _ _ ht hp e1
    obtain ⟨_, t2, n2, e2, hh⟩ := bind_eq h; clear h; have h := hh; clear hh
    obtain ⟨rfl, rfl⟩ := need_p e2
    obtain ⟨b, t3, n3, e3, hh⟩ := bind_eq h; clear h; have h := hh; clear hh
    obtain ⟨ht3, hp3⟩ := hb _ _ _ _ _ ht1.tail hp1 e3
    split at h
    · obtain ⟨c, t4, n4, e4, hh⟩ := bind_eq h; clear h; have h := hh; clear hh
      obtain ⟨ht4, hp4⟩ := ih _ _ _ _ _ ht3.tail hp3 e4
      exact lay_p ht4 hp4 (kd_p h0 (by simp; omega)) h
    · split at h
      · obtain ⟨c, t4, n4, e4, hh⟩ := bind_eq h; clear h; have h := hh; clear hh
        obtain ⟨ht4, hp4⟩ := hb _ _ _ _ _ ht3.tail hp3 e4
        obtain ⟨_, t5, n5, e5, hh⟩ := bind_eq h; clear h; have h := hh; clear hh
        obtain ⟨rfl, rfl⟩ := need_p e5
        exact lay_p ht4.tail hp4 (kd_p h0 (by simp; omega)) h
      · obtain ⟨_, t5, n5, e5, hh⟩ := bind_eq h; clear h; have h := hh; clear hh
        obtain ⟨rfl, rfl⟩ := need_p e5
        exact lay_p ht3.tail hp3 (kd_p h0 (by simp; omega)) h
theorem words_p : ∀ (ts : List Tok), TkP P N ts → (∀ s ∈ wordsT ts, P s) ∧ TkP P N (wordsR ts)
  | [], h => ⟨fun _ h => (by cases h), h⟩
  | t :: r, h => by
    rw [wordsT, wordsR]
    split
    · rename_i hk
      obtain ⟨a, b⟩ := words_p r h.of_cons
      refine ⟨fun s hs => ?_, b⟩
      rw [List.mem_cons] at hs
      rcases hs with rfl | hs
      · exact h.w t (List.mem_cons_self ..) (.inl hk)
      · exact a s hs
    · exact ⟨fun _ h => (by cases h), h⟩
theorem fors_p (h0 : P []) {ts : List Tok} {ns : List Nd} {m : Nd} {ts' : List Tok} {ns' : List Nd} (ht : TkP P N ts) (h : forsF ts ns = .ok m ts' ns') : TkP P N ts' ∧ ns' = ns ∧ NdP P N m := by
  cases ts with
  | nil => cases h
  | cons t r =>
    unfold forsF at h
    simp only [] at h
    split at h
    · rename_i hnm
      have hP := named_p ht hnm
      have htt := ht.of_cons.breaks
      split at h
      · split at h
        · obtain ⟨_, t1, n1, e1, hh⟩ := bind_eq h; clear h; have h := hh; clear hh
          obtain ⟨rfl, rfl⟩ := need_p e1
          obtain ⟨a, b⟩ := words_p _ htt.tail
          injection h with h1 h2 h3
          subst h1 h2 h3
          exact ⟨b.tail.breaks.tail, rfl, ⟨hP, fun _ h => (by cases h), a, fun _ h => (by cases h), ⟨Nat.zero_le _, fun _ h => (by cases h)⟩, Nat.zero_le _⟩⟩
        · exact (wrong_ok h).elim
      · obtain ⟨_, t1, n1, e1, hh⟩ := bind_eq h; clear h; have h := hh; clear hh
        obtain ⟨rfl, rfl⟩ := need_p e1
        injection h with h1 h2 h3
        subst h1 h2 h3
        exact ⟨(htt.take _).breaks.tail, rfl, ⟨hP, fun _ h => (by cases h), fun _ h => (by cases h), fun _ h => (by cases h), ⟨Nat.zero_le _, fun _ h => (by cases h)⟩, Nat.zero_le _⟩⟩
    · exact (wrong_ok h).elim
theorem any_p {ts : List Tok} {ns : List Nd} {s : List UInt8} {ts' : List Tok} {ns' : List Nd} (ht : TkP P N ts) (h : anyR ts ns = .ok s ts' ns') : TkP P N ts' ∧ ns' = ns ∧ P s := by
  cases ts with
  | nil => cases h
  | cons t r =>
    unfold anyR at h
    simp only [] at h
    split at h
    · rename_i hk
      injection h with h1 h2 h3
      subst h1 h2 h3
      exact ⟨ht.of_cons, rfl, ht.w t (List.mem_cons_self ..) (.inl hk)⟩
    · exact (wrong_ok h).elim
theorem pats_p : ∀ (f : Nat) (acc : List (List UInt8)) (ts : List Tok) (ns : List Nd) (l : List (List UInt8)) (ts' : List Tok) (ns' : List Nd), TkP P N ts → (∀ s ∈ acc, P s) → patsL f acc ts ns = .ok l ts' ns' → TkP P N ts' ∧ ns' = ns ∧ (∀ s ∈ l, P s) ∧ l.length + 1 ≤ acc.length + f := by
  intro f
  induction f with
  | zero => intro acc ts ns l ts' ns' _ _ h; cases h
  | succ f ih =>
    intro acc ts ns l ts' ns' ht ha h
    rw [patsL] at h
    split at h
    · obtain ⟨s, t1, n1, e1, hh⟩ := bind_eq h; clear h; have h := hh; clear hh
      obtain ⟨ht1, rfl, hs⟩ := any_p ht.tail e1
      obtain ⟨a, b, c, d⟩ := ih _ _ _ _ _ _ ht1 (by
        intro x hx
        rw [List.mem_append, List.mem_singleton] at hx
        rcases hx with hx | rfl
        · exact ha x hx
        · exact hs) h
      rw [List.length_append, List.length_singleton] at d
      exact ⟨a, b, c, by omega⟩
    · injection h with h1 h2 h3
      subst h1 h2 h3
      exact ⟨ht, rfl, ha, by omega⟩
/-- A case's node: so many patterns and kids as rounds. -/
structure CaP (P : List UInt8 → Prop) (N : Nat) (m : Nd) : Prop where
  name : P m.name
  sets : ∀ s ∈ m.sets, P s
  words : ∀ s ∈ m.words, P s
  redirs : ∀ r ∈ m.redirs, r.op ∈ rdrW ∧ P r.wd
  pats : ∀ p ∈ m.pats, p.length ≤ N + 1 ∧ ∀ s ∈ p, P s
theorem case_p {lst : Rdr} (hb : RP P N lst) : ∀ (f : Nat) (m : Nd) (ts : List Tok) (ns : List Nd) (m' : Nd) (ts' : List Tok) (ns' : List Nd), TkP P N ts → NsP P N ns → CaP P N m → caseL lst f m ts ns = .ok m' ts' ns' → TkP P N ts' ∧ NsP P N ns' ∧ CaP P N m' ∧ m'.pats.length ≤ m.pats.length + f ∧ m'.kids.length ≤ m.kids.length + f := by
  intro f
  induction f with
  | zero => intro m ts ns m' ts' ns' _ _ _ h; cases h
  | succ f ih =>
    intro m ts ns m' ts' ns' ht hp hm h
    rw [caseL] at h
    split at h
    · injection h with h1 h2 h3
      subst h1 h2 h3
      exact ⟨ht, hp, hm, by omega, by omega⟩
    · have htp : TkP P N (if sgnB ts sPar = true then ts.tail else ts) := by
        split
        · exact ht.tail
        · exact ht
      obtain ⟨s, t1, n1, e1, hh⟩ := bind_eq h; clear h; have h := hh; clear hh
      obtain ⟨ht1, rfl, hs⟩ := any_p htp e1
      obtain ⟨p, t2, n2, e2, hh⟩ := bind_eq h; clear h; have h := hh; clear hh
      obtain ⟨ht2, rfl, hps, hpl⟩ := pats_p _ _ _ _ _ _ _ ht1 (fun x hx => by rw [List.mem_singleton] at hx; rw [hx]; exact hs) e2
      have hl1 := ht1.len
      rw [List.length_singleton] at hpl
      obtain ⟨_, t3, n3, e3, hh⟩ := bind_eq h; clear h; have h := hh; clear hh
      obtain ⟨rfl, rfl⟩ := need_p e3
      obtain ⟨x, t4, n4, e4, hh⟩ := bind_eq h; clear h; have h := hh; clear hh
      have h4 : TkP P N t4 ∧ NsP P N n4 := by
        split at e4
        · exact hb _ _ _ _ _ ht2.tail.breaks hp e4
        · injection e4 with h1 h2 h3
          subst h2 h3
          exact ⟨ht2.tail.breaks, hp⟩
      have hm2 : CaP P N { m with pats := m.pats ++ [p], kids := m.kids ++ [x] } := ⟨hm.name, hm.sets, hm.words, hm.redirs, fun q hq => by
        have hq : q ∈ m.pats ++ [p] := hq
        rw [List.mem_append, List.mem_singleton] at hq
        rcases hq with hq | rfl
        · exact hm.pats q hq
        · exact ⟨by omega, hps⟩⟩
      simp only [] at h
      split at h
      · obtain ⟨a, b, c, d, e⟩ := ih _ _ _ _ _ _ h4.1.tail.breaks h4.2 hm2 h
        simp only [List.length_append, List.length_singleton] at d e
        exact ⟨a, b, c, by omega, by omega⟩
      · injection h with h1 h2 h3
        subst h1 h2 h3
        exact ⟨h4.1, h4.2, hm2, by simp only [List.length_append, List.length_singleton]; omega, by simp only [List.length_append, List.length_singleton]; omega⟩
theorem caseF_p (h0 : P []) {lst : Rdr} (hb : RP P N lst) {ts : List Tok} {ns : List Nd} {m : Nd} {ts' : List Tok} {ns' : List Nd} (ht : TkP P N ts) (hp : NsP P N ns) (h : caseF lst ts ns = .ok m ts' ns') : TkP P N ts' ∧ NsP P N ns' ∧ NdP P N m := by
  unfold caseF at h
  obtain ⟨s, t1, n1, e1, hh⟩ := bind_eq h; clear h; have h := hh; clear hh
  obtain ⟨ht1, rfl, hs⟩ := any_p ht e1
  obtain ⟨_, t3, n3, e3, hh⟩ := bind_eq h; clear h; have h := hh; clear hh
  obtain ⟨rfl, rfl⟩ := need_p e3
  obtain ⟨m2, t4, n4, e4, hh⟩ := bind_eq h; clear h; have h := hh; clear hh
  have hl := ht1.breaks.tail.len
  obtain ⟨a, b, c, d, e⟩ := case_p hb _ _ _ _ _ _ _ ht1.breaks.tail.breaks hp (⟨h0, fun _ h => (by cases h), fun x hx => (by rw [List.mem_singleton] at hx; rw [hx]; exact hs), fun _ h => (by cases h), fun _ h => (by cases h)⟩ : CaP P N { kind := 14, words := [s] }) e4
  obtain ⟨_, t5, n5, e5, hh⟩ := bind_eq h; clear h; have h := hh; clear hh
  obtain ⟨rfl, rfl⟩ := need_p e5
  injection h with h1 h2 h3
  subst h1 h2 h3
  have hl2 := ht1.breaks.tail.breaks.len
  simp only [List.length_nil] at d e
  exact ⟨a.tail, b, ⟨c.name, c.sets, c.words, c.redirs, ⟨by omega, c.pats⟩, by omega⟩⟩
theorem coreS_p (h0 : P []) (h3 : 3 ≤ N) {lst : Rdr} (hb : RP P N lst) (s : List UInt8) {ts : List Tok} {ns : List Nd} {x : Int} {ts' : List Tok} {ns' : List Nd} (ht : TkP P N ts) (hp : NsP P N ns) (h : coreS lst s ts ns = .ok x ts' ns') : TkP P N ts' ∧ NsP P N ns' := by
  have one : ∀ (kd : Int) (c : List UInt8), ((lst ts ns).bind fun x ts ns => (needR c ts ns).bind fun _ ts ns => layR { kind := kd, kids := [x] } ts ns) = .ok x ts' ns' → TkP P N ts' ∧ NsP P N ns' := by
    intro kd c h
    obtain ⟨y, t1, n1, e1, hh⟩ := bind_eq h; clear h; have h := hh; clear hh
    obtain ⟨ht1, hp1⟩ := hb _ _ _ _ _ ht hp e1
    obtain ⟨_, t5, n5, e5, hh⟩ := bind_eq h; clear h; have h := hh; clear hh
    obtain ⟨rfl, rfl⟩ := need_p e5
    exact lay_p ht1.tail hp1 (kd_p h0 (by simp)) h
  unfold coreS at h
  split at h
  · exact one 8 wClose h
  · split at h
    · exact one 9 sRap h
    · split at h
      · exact ifs_p h0 h3 hb _ _ _ _ _ _ ht hp h
      · split at h
        · obtain ⟨m, t1, n1, e1, hh⟩ := bind_eq h; clear h; have h := hh; clear hh
          obtain ⟨ht1, rfl, hm⟩ := fors_p h0 ht e1
          obtain ⟨y, t2, n2, e2, hh⟩ := bind_eq h; clear h; have h := hh; clear hh
          obtain ⟨ht2, hp2⟩ := hb _ _ _ _ _ ht1 hp e2
          obtain ⟨_, t5, n5, e5, hh⟩ := bind_eq h; clear h; have h := hh; clear hh
          obtain ⟨rfl, rfl⟩ := need_p e5
          exact lay_p (m := { m with kids := [y] }) ht2.tail hp2 ⟨hm.name, hm.sets, hm.words, hm.redirs, hm.pats, by show 1 ≤ N + 1; omega⟩ h
        · split at h
          · obtain ⟨m, t1, n1, e1, hh⟩ := bind_eq h; clear h; have h := hh; clear hh
            obtain ⟨ht1, hp1, hm⟩ := caseF_p h0 hb ht hp e1
            exact lay_p ht1 hp1 hm h
          · obtain ⟨y, t1, n1, e1, hh⟩ := bind_eq h; clear h; have h := hh; clear hh
            obtain ⟨ht1, hp1⟩ := hb _ _ _ _ _ ht hp e1
            obtain ⟨_, t2, n2, e2, hh⟩ := bind_eq h; clear h; have h := hh; clear hh
            obtain ⟨rfl, rfl⟩ := need_p e2
            obtain ⟨z, t3, n3, e3, hh⟩ := bind_eq h; clear h; have h := hh; clear hh
            obtain ⟨ht3, hp3⟩ := hb _ _ _ _ _ ht1.tail hp1 e3
            obtain ⟨_, t5, n5, e5, hh⟩ := bind_eq h; clear h; have h := hh; clear hh
            obtain ⟨rfl, rfl⟩ := need_p e5
            exact lay_p ht3.tail hp3 (kd_p h0 (by simp; omega)) h
theorem coreF_p (h0 : P []) (h3 : 3 ≤ N) {lst : Drd} (hb : ∀ d, RP P N (lst d)) (d : Nat) : RP P N (coreF lst d) := by
  intro ts ns x ts' ns' ht hp h
  cases ts with
  | nil => cases h
  | cons t r =>
    unfold coreF at h
    simp only [] at h
    split at h
    · cases h
    · exact coreS_p h0 h3 (hb d) _ ht.of_cons hp h
theorem core_p (h0 : P []) (h3 : 3 ≤ N) : ∀ f d, RP P N (core f d)
  | 0, _ => fun _ _ _ _ _ _ _ h => by cases h
  | f + 1, d => coreF_p h0 h3 (lst_p h0 h3 (cmp_p (core_p h0 h3 f))) d
theorem parseT_p (h0 : P []) (h3 : 3 ≤ N) {ts : List Tok} (h : TkP P N ts) : NsP P N (parseT ts).ns := by
  have none : NsP P N [] := fun m hm => by cases hm
  have hb := h.breaks
  unfold parseT
  cases hbr : breaksF ts with
  | nil => exact none
  | cons t r =>
    rw [hbr] at hb
    simp only []
    split
    · exact none
    · cases hl : lst ts.length 0 (t :: r) [] with
      | bad a e => exact none
      | ok x t1 n1 =>
        have hp := (lst_p h0 h3 (cmp_p (core_p h0 h3 ts.length)) 0 _ _ _ _ _ hb none hl).2
        cases t1 with
        | nil => exact none
        | cons u q =>
          simp only []
          split
          · exact none
          · split
            · exact none
            · exact hp
theorem parseF_p (h0 : P []) {s : List UInt8} (h : ∀ ts, allF s = .ok ts → ∀ t ∈ ts, t.k = 1 ∨ t.k = 3 → P t.t) : NsP P 402 (parseF s).ns := by
  unfold parseF
  cases ha : allF s with
  | err a e => exact fun m hm => by cases hm
  | ok ts => exact parseT_p h0 (by decide) ⟨by have := (all_toks ha).2.len; omega, h ts ha⟩
theorem parse_len (s : List UInt8) : NsP (fun x => x.length ≤ 4096) 402 (parseF s).ns := by
  refine parseF_p (by simp) fun ts ha t ht hk => ?_
  rcases (all_toks ha).2.w t ht with h | h
  · have := h.1; omega
  · exact h.len

end Go.Proofs.Ytdhfhphbkfgamaa

end
section
/- A text without quotes: its words and its nodes' text have no line feed. -/
namespace Go.Proofs.Ytdhfhphbkfgamaa
open Lx
set_option maxRecDepth 100000

theorem join_le : ∀ p : List (List UInt8), (∀ s ∈ p, s.length ≤ 4096) → (joinF p).length ≤ p.length * 4099
  | [], _ => Nat.zero_le _
  | [s], h => by
    have := h s (List.mem_cons_self ..)
    show s.length ≤ 1 * 4099
    omega
  | s :: t :: r, h => by
    have h1 := h s (List.mem_cons_self ..)
    have h2 := join_le (t :: r) fun x hx => h x (List.mem_cons_of_mem _ hx)
    show (s ++ [32, 124, 32] ++ joinF (t :: r)).length ≤ _
    simp only [List.length_append, List.length_cons, List.length_nil] at h2 ⊢
    omega
theorem rdr_len : ∀ s ∈ rdrW, s.length ≤ 2 ∧ 10 ∉ s := by decide
theorem lts_of {l : List Nd} (h : NsP (fun x => x.length ≤ 4096) 402 l) : Lts l := by
  intro n hn
  have hm := h n hn
  refine ⟨by have := hm.kids; omega, by have := hm.pats.1; omega, ⟨fun s hs => by have := hm.words s hs; omega, fun p hp => ?_, fun r hr => ?_⟩⟩
  · obtain ⟨h1, h2⟩ := hm.pats.2 p hp
    have := join_le p h2
    omega
  · obtain ⟨h1, h2⟩ := hm.redirs r hr
    have := (rdr_len _ h1).1
    omega
theorem lts_parse (s : List UInt8) : Lts (parseF s).ns := lts_of (parse_len s)

/-! ### no line feed -/
def qts : List UInt8 := [39, 34, 92, 96, 36]
def NoQ (t : List UInt8) : Prop := ∀ c ∈ t, c ∉ qts
theorem NoQ.drop {t : List UInt8} (h : NoQ t) (n : Nat) : NoQ (t.drop n) := fun c hc => h c (List.mem_of_mem_drop hc)
theorem begs_no {c : UInt8} {r : List UInt8} (h : NoQ (c :: r)) (q : Bool) : begs q (c :: r) = false := by
  have hc := h c (List.mem_cons_self ..)
  simp only [qts, List.mem_cons, List.not_mem_nil, or_false, not_or] at hc
  obtain ⟨h1, h2, h3, h4, h5⟩ := hc
  unfold begs
  have e1 : (c :: r).take 1 = [c] := rfl
  have e2 : ∀ x : UInt8, (c :: r).take 2 ≠ [36, x] := by
    intro x e
    rw [show (c :: r).take 2 = c :: r.take 1 from rfl] at e
    injection e with e _
    exact h5 e
  rw [e1, decide_eq_false (p := (c :: r).take 2 = [36, 40]) (e2 _), decide_eq_false (p := (c :: r).take 2 = [36, 123]) (e2 _)]
  simp [h1, h2, h3, h4]
theorem stop10 {c : UInt8} (h : ¬ isIn stopB c = true) : c ≠ 10 := by
  rintro rfl
  exact h (by decide)
theorem word_no : ∀ (t : List UInt8) (n : Nat), NoQ t → wordR t = .ok n → 10 ∉ t.take n
  | [], n, _, h => by simp
  | c :: r, n, hq, h => by
    rw [word_cons] at h
    split at h
    · injection h with h
      subst h
      simp
    · rename_i hs
      have hp : partR 25 false (c :: r) = .ok 0 := by
        unfold partR
        rw [begs_no hq]
        rfl
      rw [hp] at h
      simp only [] at h
      cases hw : wordR (r.drop (0 - 1)) with
      | more => rw [hw] at h; cases h
      | deep a => rw [hw] at h; cases h
      | ok m =>
        rw [hw] at h
        have hn : n = max 0 1 + m := by
          injection h with h
          omega
        have := word_no r m (fun x hx => hq x (List.mem_cons_of_mem _ hx)) hw
        subst hn
        rw [show max 0 1 + m = m + 1 by omega, List.take_succ_cons, List.mem_cons, not_or]
        exact ⟨fun e => stop10 hs e.symm, this⟩
theorem next_no {t : List UInt8} {k : Nat} {s : List UInt8} (hq : NoQ t) (h : nextF t = .tok k s) (hk : k = 1 ∨ k = 3) : 10 ∉ s := by
  unfold nextF at h
  split at h
  · injection h with h1 h2
    omega
  · split at h
    · rename_i n hw
      injection h with h1 h2
      subst h2
      exact word_no t n hq hw
    · cases h
    · cases h
theorem go_no {l : List UInt8} (hq : NoQ l) : ∀ (f i : Nat) (acc out : List Tok), (∀ t ∈ acc, t.k = 1 ∨ t.k = 3 → 10 ∉ t.t) → allGo l f i acc = .ok out → ∀ t ∈ out, t.k = 1 ∨ t.k = 3 → 10 ∉ t.t := by
  intro f
  induction f with
  | zero =>
    intro i acc out ha h
    injection h with h
    subst h
    exact ha
  | succ f ih =>
    intro i acc out ha h
    rw [allGo] at h
    split at h
    · split at h
      · cases h
      · cases hn : nextF (l.drop i) with
        | more => rw [hn] at h; cases h
        | deep d => rw [hn] at h; cases h
        | tok k s =>
          rw [hn] at h
          refine ih _ _ _ (fun t ht hk => ?_) h
          rw [List.mem_append, List.mem_singleton] at ht
          rcases ht with ht | rfl
          · exact ha t ht hk
          · exact next_no (hq.drop i) hn (by simp only [] at hk; omega)
    · injection h with h
      subst h
      exact ha
theorem all_no {l : List UInt8} {ts : List Tok} (hq : NoQ l) (h : allF l = .ok ts) : ∀ t ∈ ts, t.k = 1 ∨ t.k = 3 → 10 ∉ t.t := by
  unfold allF at h
  split at h
  · cases h
  · cases ha : allGo l (l.length + 1) (blankF l) [] with
    | err a e => rw [ha] at h; cases h
    | ok acc =>
      rw [ha] at h
      injection h with h
      subst h
      intro t ht hk
      rw [List.mem_append, List.mem_singleton] at ht
      rcases ht with ht | rfl
      · exact go_no hq _ _ _ _ (fun _ h => by cases h) ha t ht hk
      · simp
theorem parse_no {s : List UInt8} (h : NoQ s) : NsP (fun x => 10 ∉ x) 402 (parseF s).ns := parseF_p (by simp) fun ts ha => all_no h ha

/-! ### what is put -/
def N10 (l : List (List UInt8)) : Prop := ∀ s ∈ l, 10 ∉ s
theorem N10.nil : N10 [] := fun _ h => by cases h
theorem N10.app {a b : List (List UInt8)} (h : N10 a) (k : N10 b) : N10 (a ++ b) := by
  intro s hs
  rw [List.mem_append] at hs
  exact hs.elim (h s) (k s)
theorem N10.cons {s : List UInt8} {b : List (List UInt8)} (h : 10 ∉ s) (k : N10 b) : N10 (s :: b) := by
  intro x hx
  rw [List.mem_cons] at hx
  rcases hx with rfl | hx
  · exact h
  · exact k x hx
theorem N10.ite {c : Prop} [Decidable c] {a b : List (List UInt8)} (h : N10 a) (k : N10 b) : N10 (if c then a else b) := by
  split
  · exact h
  · exact k
theorem put_no {b s : List UInt8} (hb : 10 ∉ b) (hs : 10 ∉ s) : 10 ∉ putF b s := by
  unfold putF
  split
  · rw [List.mem_append, not_or]
    exact ⟨hb, fun h => hs (List.mem_of_mem_take h)⟩
  · exact hb
theorem puts_no : ∀ (l : List (List UInt8)) (b : List UInt8), 10 ∉ b → N10 l → 10 ∉ putsF b l
  | [], b, h, _ => h
  | s :: l, b, h, k => puts_no l _ (put_no h (k s (List.mem_cons_self ..))) fun x hx => k x (List.mem_cons_of_mem _ hx)
theorem words_no : ∀ (l : List (List UInt8)) (m : Bool), N10 l → N10 (wordsE l m)
  | [], _, _ => N10.nil
  | s :: r, m, h => by
    rw [wordsE]
    exact ((N10.ite (.cons (by decide) .nil) .nil).app (.cons (h s (List.mem_cons_self ..)) .nil)).app (words_no r true fun x hx => h x (List.mem_cons_of_mem _ hx))
theorem kid_no {rec : Nat → List (List UInt8)} (hr : ∀ i, N10 (rec i)) (n : Nd) (i : Nat) : N10 (kidE rec n i) := by
  unfold kidE
  split
  · exact N10.ite (hr _) .nil
  · exact .nil
theorem end_no (l : List Nd) (n : Nd) (i : Nat) : N10 (endE l n i) := by
  unfold endE
  split
  · exact N10.ite .nil (.cons (by decide) .nil)
  · exact .cons (by decide) .nil
theorem list_no {rec : Nat → List (List UInt8)} (hr : ∀ i, N10 (rec i)) (l : List Nd) (n : Nd) (i : Nat) : N10 (listE l rec n i) :=
  ((kid_no hr n i).app (end_no l n i)).app (.cons (by decide) .nil)
theorem kids_no {rec : Nat → List (List UInt8)} (hr : ∀ i, N10 (rec i)) (n : Nd) {b : List UInt8} (hb : 10 ∉ b) : ∀ m, N10 (kidsE rec n b m)
  | 0 => .nil
  | m + 1 => ((kids_no hr n hb m).app (N10.ite (.cons hb .nil) .nil)).app (kid_no hr n m)
theorem seq_no {rec : Nat → List (List UInt8)} (hr : ∀ i, N10 (rec i)) (l : List Nd) (n : Nd) : ∀ m, N10 (seqE l rec n m)
  | 0 => .nil
  | m + 1 => ((seq_no hr l n m).app (N10.ite (N10.ite (.cons (by decide) .nil) (.cons (by decide) (.cons (by decide) .nil))) .nil)).app (kid_no hr n m)
theorem join_no : ∀ p : List (List UInt8), N10 p → 10 ∉ joinF p
  | [], _ => by simp [joinF]
  | [s], h => h s (List.mem_cons_self ..)
  | s :: t :: r, h => by
    show 10 ∉ s ++ [32, 124, 32] ++ joinF (t :: r)
    rw [List.mem_append, List.mem_append, not_or, not_or]
    exact ⟨⟨h s (List.mem_cons_self ..), by decide⟩, join_no (t :: r) fun x hx => h x (List.mem_cons_of_mem _ hx)⟩
theorem pats_no {rec : Nat → List (List UInt8)} (hr : ∀ i, N10 (rec i)) (n : Nd) (hp : ∀ p ∈ n.pats, N10 p) : ∀ m, N10 (patsE rec n m)
  | 0 => .nil
  | m + 1 => by
    rw [patsE]
    refine (((pats_no hr n hp m).app (.cons (by decide) (.cons ?_ (.cons (by decide) .nil)))).app ?_).app (.cons (by decide) .nil)
    · refine join_no _ ?_
      rw [List.getD_eq_getElem?_getD]
      cases h : n.pats[m]? with
      | none => exact .nil
      | some p => exact hp p (List.mem_of_getElem? h)
    · split
      · exact N10.ite (N10.app (.cons (by decide) .nil) (hr _)) .nil
      · exact .nil
theorem ten_ne : ∀ d : Nat, d ≤ 9 → (10 : UInt8) ≠ UInt8.ofNat (48 + d) := by decide
theorem red_no {r : Rd} (h : r.op ∈ rdrW ∧ 10 ∉ r.wd) : 10 ∉ redE r := by
  unfold redE
  rw [List.mem_append, List.mem_append, not_or, not_or]
  refine ⟨?_, (rdr_len _ h.1).2, h.2⟩
  split
  · rw [List.mem_singleton]
    exact ten_ne _ (by omega)
  · simp
theorem body_no {rec : Nat → List (List UInt8)} (hr : ∀ i, N10 (rec i)) (l : List Nd) (n : Nd) (hn : NdP (fun x => 10 ∉ x) 402 n) : N10 (bodyE l rec n) := by
  have hL := list_no hr l n
  have hK := kid_no hr n
  have c : ∀ {s : List UInt8}, 10 ∉ s → N10 [s] := fun h => .cons h .nil
  unfold bodyE
  refine .ite ((words_no _ _ hn.sets).app (words_no _ _ hn.words)) (.ite ((c (by decide)).app (hK 0)) (.ite ((hK 0).app (c (by decide))) (.ite (kids_no hr n (by decide) _) (.ite (kids_no hr n (by decide) _) (.ite (kids_no hr n (by decide) _) (.ite (seq_no hr l n _)
    (.ite (((c (by decide)).app (hL 0)).app (c (by decide))) (.ite (((c (by decide)).app (hK 0)).app (c (by decide))) (.ite ((((((c (by decide)).app (hL 0)).app (c (by decide))).app (hL 1)).app (.ite ((c (by decide)).app (hK 2)) (.ite (((c (by decide)).app (hL 2)).app (c (by decide))) (c (by decide)))))) (.ite ?_ (.ite ?_ (.ite ?_ (.ite ?_ .nil)))))))))))))
  · refine ((((c ?_).app (hL 0)).app (c (by decide))).app (hL 1)).app (c (by decide))
    split <;> decide
  · exact ((((N10.cons (by decide) (.cons hn.name .nil)).app (.ite ((c (by decide)).app (words_no _ _ hn.words)) .nil)).app (c (by decide))).app (hL 0)).app (c (by decide))
  · unfold casesE
    refine ((N10.cons (by decide) (.cons ?_ (.cons (by decide) .nil))).app (pats_no hr n (fun p hp => (hn.pats.2 p hp).2) _)).app (c (by decide))
    cases hw : n.words with
    | nil => simp
    | cons s r => exact hn.words s (by rw [hw]; exact List.mem_cons_self ..)
  · exact (N10.cons hn.name (.cons (by decide) .nil)).app (hK 0)
theorem ndF_p {l : List Nd} (h : NsP (fun x => 10 ∉ x) 402 l) (k : Int) : NdP (fun x => 10 ∉ x) 402 (ndF l k) := by
  unfold ndF
  rw [List.getD_eq_getElem?_getD]
  cases hk : l[k.toNat]? with
  | none => exact kd_p (by simp) (Nat.zero_le _)
  | some m => exact h m (List.mem_of_getElem? hk)
theorem node_no {l : List Nd} (h : NsP (fun x => 10 ∉ x) 402 l) : ∀ (f i : Nat), N10 (nodeE l f i)
  | 0, _ => .nil
  | f + 1, i => by
    rw [nodeE]
    refine (body_no (node_no h f) l _ (ndF_p h _)).app (words_no _ _ fun s hs => ?_)
    obtain ⟨r, hr, rfl⟩ := List.mem_map.1 hs
    exact red_no ((ndF_p h _).redirs r hr)
theorem print_no {l : List Nd} (h : NsP (fun x => 10 ∉ x) 402 l) : 10 ∉ printF l := by
  unfold printF
  split
  · simp only []
    split
    · simp
    · split
      · exact puts_no _ _ (by simp) (node_no h _ _)
      · simp
  · simp

end Go.Proofs.Ytdhfhphbkfgamaa

end
section
/- of, shown. -/
namespace Go.Proofs.Ytdhfhphbkfgamaa
open Go.RowKit Lx
set_option maxRecDepth 100000

/-- The plain parser, for the kernel to reckon. -/
def parseN (s : List UInt8) : Ps := match allN s with
  | .err a e => ⟨[], a, e⟩
  | .ok ts => parseT ts
theorem parseN_eq (s : List UInt8) (h : ¬ 4096 < s.length) : parseF s = parseN s := by
  unfold parseF parseN
  rw [allN_eq s h]
  cases allN s <;> rfl
def printN (l : List Nd) : List UInt8 :=
  if ordB l = true then
    let s := putsF [] (nodeE l l.length (l.length - 1))
    if 4096 < s.length then [] else if (parseN s).e = 0 ∧ (parseN s).ns = l then s else []
  else []
theorem printN_eq (l : List Nd) : printF l = printN l := by
  unfold printF printN
  split
  · simp only []
    by_cases h : 4096 < (putsF [] (nodeE l l.length (l.length - 1))).length
    · rw [if_pos h, if_pos h]
    · rw [if_neg h, if_neg h, parseN_eq _ h]
  · rfl
def ofN (s : List UInt8) : List UInt8 := printN (parseN s).ns
theorem of_eq (s : List UInt8) (h : ¬ 4096 < s.length) : printF (parseF s).ns = ofN s := by rw [printN_eq, parseN_eq s h]; rfl
def s1 : List UInt8 := [105, 102, 32, 97, 10, 116, 104, 101, 110, 32, 98, 10, 101, 108, 105, 102, 32, 99, 59, 116, 104, 101, 110, 32, 100, 10, 102, 105, 62, 102]
def u1 : List UInt8 := [105, 102, 32, 97, 59, 32, 116, 104, 101, 110, 32, 98, 59, 32, 101, 108, 105, 102, 32, 99, 59, 32, 116, 104, 101, 110, 32, 100, 59, 32, 102, 105, 32, 62, 102]
theorem sh1 : ofN s1 = u1 := by kernel_rfl
def s2 : List UInt8 := [97, 38, 98]
def u2 : List UInt8 := [97, 32, 38, 32, 98]
theorem sh2 : ofN s2 = u2 := by kernel_rfl
def s3 : List UInt8 := [123, 32, 97, 38, 10, 125]
def u3 : List UInt8 := [123, 32, 97, 32, 38, 32, 125]
theorem sh3 : ofN s3 = u3 := by kernel_rfl
set_option maxHeartbeats 4000000 in
theorem of_any (s : List UInt8) (w : World) (hm : s.length ≤ 9223372036854775807) : Calls Try.prog 8 #[sv s] w fun e w' => e = .returned (sv (printF (parseF s).ns)) ∧ w.grownBy w' none := by
  have HP := hide (fun W => parse_any s W hm)
  have HL := hide (lts_parse s)
  obtain ⟨P, hP⟩ : ∃ P, parseF s = P := ⟨_, rfl⟩
  rw [hP] at HP HL ⊢
  clear hP
  unfold ParsePost sv at HP
  unfold sv
  go_enter Try.func8, Try.ntmps8
  go_wp2_with fail
  refine (HP.out _).mono ?_
  rintro e w1 ⟨v, rfl, hnd, _, g1⟩
  have G1 := hide g1
  have HPR := hide (print_any P.ns v w1 hnd.ndsR HL.out)
  unfold sv at HPR
  obtain ⟨a2, c2, rfl, _⟩ := (hnd.ndsR (n0 := w1.heap.size)).form
  clear hnd g1
  go_wp2_with fail
  refine HPR.out.mono ?_
  rintro e w2 ⟨rfl, g2⟩
  have G2 := hide (none_trans G1.out g2)
  clear g2
  go_wp2_with fail
  go_ret
  exact ⟨rfl, G2.out⟩
set_option maxHeartbeats 4000000 in
theorem shown_any (w : World) : Calls Try.prog 5 #[] w fun e w' => e = .returned (.bool true) ∧ w.grownBy w' none := by
  have H1 := hide (fun W => (by have := of_any s1 W (by decide); rw [of_eq s1 (by decide), sh1] at this; exact this))
  have H2 := hide (fun W => (by have := of_any s2 W (by decide); rw [of_eq s2 (by decide), sh2] at this; exact this))
  have H3 := hide (fun W => (by have := of_any s3 W (by decide); rw [of_eq s3 (by decide), sh3] at this; exact this))
  unfold sv s1 u1 at H1
  unfold sv s2 u2 at H2
  unfold sv s3 u3 at H3
  go_enter Try.func5, Try.ntmps5
  go_wp2_with fail
  refine (H1.out _).mono ?_
  rintro e w1 ⟨rfl, g1⟩
  have G1 := hide g1
  clear g1
  go_wp2_with fail
  refine (H2.out _).mono ?_
  rintro e w2 ⟨rfl, g2⟩
  have G2 := hide (none_trans G1.out g2)
  clear g2
  go_wp2_with fail
  refine (H3.out _).mono ?_
  rintro e w3 ⟨rfl, g3⟩
  have G3 := hide (none_trans G2.out g3)
  clear g3
  go_wp2_with fail
  go_ret
  exact ⟨rfl, G3.out⟩

end Go.Proofs.Ytdhfhphbkfgamaa

end
