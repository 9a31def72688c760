/- A simple command's parts are no more than the tokens. -/
import Derived.Test.YtgpfjcogaheopaaQE
namespace Go.Proofs.Ytgpfjcogaheopaa
open Lx
set_option maxRecDepth 100000

def Pn (n : Nat) (ns : List Nd) : Prop := ∀ m ∈ ns, m.kind = 1 → m.sets.length + m.words.length + m.redirs.length ≤ n
variable {L n : Nat}
def Sz (L n : Nat) (f : Rdr) : Prop := ∀ ts ns x ts' ns', T3 L n ts → Pn n ns → f ts ns = .ok x ts' ns' → Pn n ns'
def SzH (L n : Nat) (f : Rdr) : Prop := ∀ ts ns x ts' ns', T3 L n ts → cmpH ts = true → Pn n ns → f ts ns = .ok x ts' ns' → Pn n ns'
theorem Pn.lay {ns : List Nd} {m : Nd} (h : Pn n ns) (hm : m.kind = 1 → m.sets.length + m.words.length + m.redirs.length ≤ n) : Pn n (ns ++ [m]) := by
  intro u hu
  rw [List.mem_append, List.mem_singleton] at hu
  rcases hu with hu | rfl
  · exact h u hu
  · exact hm
theorem Pn.lay2 {ns : List Nd} {m : Nd} (h : Pn n ns) (hm : m.kind ≠ 1) : Pn n (ns ++ [m]) := h.lay fun e => absurd e hm
theorem Pn.layR {ns : List Nd} {m : Nd} {ts : List Tok} {x : Int} {ts' : List Tok} {ns' : List Nd} (h : Pn n ns) (hm : m.kind ≠ 1) (he : layR m ts ns = .ok x ts' ns') : Pn n ns' := by
  obtain ⟨_, _, rfl⟩ := lay_ok he
  exact h.lay2 hm
theorem kd_ne {k : Int} {l : List Int} (h : k ≠ 1) : ({ kind := k, kids := l } : Nd).kind ≠ 1 := h
theorem list_loop_sz {item : Rdr} (hd : Dec 3 item) (hi : Fine item) (hb : Sz L n item) : ∀ (f : Nat) (kids : List Int) (back : Bool) (ts : List Tok) (ns : List Nd) (k : List Int × Bool) (ts' : List Tok) (ns' : List Nd), T3 L n ts → Pn n ns → listL item f kids back ts ns = .ok k ts' ns' → Pn n ns' := by
  intro f
  induction f with
  | zero => intro kids back ts ns k ts' ns' _ _ h; cases h
  | succ f ih =>
    intro kids back ts ns k ts' ns' ht hp h
    rw [listL] at h
    obtain ⟨x, t1, n1, e1, hh⟩ := bind_eq h; clear h; have h := hh; clear hh
    obtain ⟨ht1, hl1⟩ := ht.read hd hi e1
    have hp1 := hb _ _ _ _ _ ht hp e1
    have hp2 : Pn n (n1 ++ [{ kind := 7, kids := [x] }]) := hp1.lay2 (kd_ne (by decide))
    simp only [] at h
    by_cases ha : isB t1 sAmp = true
    · have hk : takeT t1 sAmp = t1.tail := if_pos ha
      simp only [ha, hk, Bool.true_or, if_true] at h
      by_cases hbg : beginsB (breaksF t1.tail) = true
      · rw [if_pos hbg] at h
        exact ih _ _ _ _ _ _ _ (ht1.is ha).1.breaks.1 hp2 h
      · rw [if_neg hbg] at h
        injection h with h1 h2 h3
        subst h3
        exact hp2
    · have ha : isB t1 sAmp = false := by simpa using ha
      have hk : takeT t1 sAmp = t1 := by unfold takeT; rw [ha]; rfl
      simp only [ha, hk, Bool.false_or] at h
      by_cases hs : (isB t1 sSemi || isB t1 sLf) = true
      · simp only [hs, if_true] at h
        have hT : T3 L n t1.tail := by
          rw [Bool.or_eq_true] at hs
          rcases hs with hs | hs
          · exact (ht1.is hs).1
          · exact (ht1.is hs).1
        simp only [Bool.false_eq_true, if_false] at h
        by_cases hbg : beginsB (breaksF t1.tail) = true
        · rw [if_pos hbg] at h
          exact ih _ _ _ _ _ _ _ hT.breaks.1 hp1 h
        · rw [if_neg hbg] at h
          injection h with h1 h2 h3
          subst h3
          exact hp1
      · have hs : (isB t1 sSemi || isB t1 sLf) = false := by simpa using hs
        simp only [hs, Bool.false_eq_true, if_false] at h
        injection h with h1 h2 h3
        subst h3
        exact hp1
theorem list_sz {item : Rdr} (hd : Dec 3 item) (hi : Fine item) (hb : Sz L n item) : Sz L n (listF item) := by
  intro ts ns x ts' ns' ht hp h
  unfold listF at h
  obtain ⟨k, t1, n1, e1, hh⟩ := bind_eq h; clear h; have h := hh; clear hh
  have hp1 := list_loop_sz hd hi hb _ _ _ _ _ _ _ _ ht.breaks.1 hp e1
  split at h
  · split at h
    · exact hp1.layR (kd_ne (by decide)) h
    · injection h with h1 h2 h3
      subst h3
      exact hp1
  · exact hp1.layR (kd_ne (by decide)) h
theorem item_loop_sz {pipe : Rdr} (hd : Dec 3 pipe) (hi : Fine pipe) (hb : Sz L n pipe) : ∀ (f : Nat) (x : Int) (ts : List Tok) (ns : List Nd) (y : Int) (ts' : List Tok) (ns' : List Nd), T3 L n ts → Pn n ns → itemL pipe f x ts ns = .ok y ts' ns' → Pn n ns' := by
  intro f
  induction f with
  | zero => intro x ts ns y ts' ns' _ _ h; cases h
  | succ f ih =>
    intro x ts ns y ts' ns' ht hp h
    rw [itemL] at h
    have step : ∀ (s : List UInt8) (kd : Int), kd ≠ 1 → isB ts s = true → ((pipe (breaksF ts.tail) ns).bind fun y ts ns => itemL pipe f ns.length ts (ns ++ [{ kind := kd, kids := [x, y] }])) = .ok y ts' ns' → Pn n ns' := by
      intro s kd hk ha h
      have ht3 := (ht.is ha).1.breaks.1
      obtain ⟨z, t1, n1, e1, hh⟩ := bind_eq h; clear h; have h := hh; clear hh
      exact ih _ _ _ _ _ _ (ht3.read hd hi e1).1 ((hb _ _ _ _ _ ht3 hp e1).lay2 (kd_ne hk)) h
    split at h
    · rename_i ha
      exact step sAnd 4 (by decide) ha h
    · split at h
      · rename_i ha
        exact step sOr 5 (by decide) ha h
      · injection h with h1 h2 h3
        subst h3
        exact hp
theorem item_sz {pipe : Rdr} (hd : Dec 3 pipe) (hi : Fine pipe) (hb : Sz L n pipe) : Sz L n (itemF pipe) := by
  intro ts ns x ts' ns' ht hp h
  unfold itemF at h
  obtain ⟨z, t1, n1, e1, hh⟩ := bind_eq h; clear h; have h := hh; clear hh
  exact item_loop_sz hd hi hb _ _ _ _ _ _ _ (ht.read hd hi e1).1 (hb _ _ _ _ _ ht hp e1) h
theorem pipe_loop_sz {cmd : Rdr} (hd : Dec 5 cmd) (hi : Fine cmd) (hb : Sz L n cmd) : ∀ (f : Nat) (kids : List Int) (ts : List Tok) (ns : List Nd) (k : List Int) (ts' : List Tok) (ns' : List Nd), T3 L n ts → Pn n ns → pipeL cmd f kids ts ns = .ok k ts' ns' → Pn n ns' := by
  intro f
  induction f with
  | zero => intro kids ts ns k ts' ns' _ _ h; cases h
  | succ f ih =>
    intro kids ts ns k ts' ns' ht hp h
    rw [pipeL] at h
    split at h
    · rename_i ha
      have ht3 := (ht.is ha).1.breaks.1
      obtain ⟨z, t1, n1, e1, hh⟩ := bind_eq h; clear h; have h := hh; clear hh
      exact ih _ _ _ _ _ _ (ht3.read hd hi e1).1 (hb _ _ _ _ _ ht3 hp e1) h
    · injection h with h1 h2 h3
      subst h3
      exact hp
theorem not_sz {b : Bool} {x y : Int} {ts ts' : List Tok} {ns ns' : List Nd} (hp : Pn n ns) (h : notR b x ts ns = .ok y ts' ns') : Pn n ns' := by
  unfold notR at h
  split at h
  · exact hp.layR (kd_ne (by decide)) h
  · injection h with h1 h2 h3
    subst h3
    exact hp
theorem pipe_sz {cmd : Rdr} (hd : Dec 5 cmd) (hi : Fine cmd) (hb : Sz L n cmd) : Sz L n (pipeF cmd) := by
  intro ts ns x ts' ns' ht hp h
  unfold pipeF at h
  obtain ⟨y, t1, n1, e1, hh⟩ := bind_eq h; clear h; have h := hh; clear hh
  have ht0 := (ht.take (s := wBang)).1
  have hp1 := hb _ _ _ _ _ ht0 hp e1
  obtain ⟨k, t2, n2, e2, hh⟩ := bind_eq h; clear h; have h := hh; clear hh
  have hp2 := pipe_loop_sz hd hi hb _ _ _ _ _ _ _ (ht0.read hd hi e1).1 hp1 e2
  split at h
  · exact not_sz (hp2.lay2 (kd_ne (by decide))) h
  · exact not_sz hp2 h
theorem redir_sz : ∀ (f : Nat) (acc : List Rd) (ts : List Tok) (ns : List Nd) (l : List Rd) (ts' : List Tok) (ns' : List Nd), Good ts → redirL f acc ts ns = .ok l ts' ns' → l.length + ts'.length ≤ acc.length + ts.length := fun f acc ts ns l ts' ns' hg h => by
  have := redir_good f acc ts ns l ts' ns' hg h
  omega
theorem sim_sz : ∀ (f : Nat) (m : Nd) (ts : List Tok) (ns : List Nd) (m' : Nd) (ts' : List Tok) (ns' : List Nd), Good ts → simL f m ts ns = .ok m' ts' ns' →
    m'.sets.length + m'.words.length + m'.redirs.length + ts'.length ≤ m.sets.length + m.words.length + m.redirs.length + ts.length := by
  intro f
  induction f with
  | zero => intro m ts ns m' ts' ns' _ h; cases h
  | succ f ih =>
    intro m ts ns m' ts' ns' hg h
    rw [simL] at h
    obtain ⟨l, t1, n1, e1, hh⟩ := bind_eq h; clear h; have h := hh; clear hh
    obtain ⟨g1, _, hl⟩ := redirF_good hg e1
    obtain ⟨t, r, rfl⟩ := g1.ne
    simp only [List.length_cons] at hl
    simp only [] at h
    have stay : PR.ok { m with redirs := m.redirs ++ l } (t :: r) n1 = PR.ok m' ts' ns' → m'.sets.length + m'.words.length + m'.redirs.length + ts'.length ≤ m.sets.length + m.words.length + m.redirs.length + ts.length := by
      intro h
      injection h with h1 h2 h3
      subst h1 h2
      simp only [List.length_append, List.length_cons]
      omega
    split at h
    · exact stay h
    · rename_i hk
      have g2 := g1.tail (by omega)
      split at h
      · have := ih _ _ _ _ _ _ g2 h
        simp only [List.length_append, List.length_cons, List.length_nil] at this
        omega
      · split at h
        · have := ih _ _ _ _ _ _ g2 h
          simp only [List.length_append, List.length_cons, List.length_nil] at this
          omega
        · split at h
          · exact stay h
          · have := ih _ _ _ _ _ _ g2 h
            simp only [List.length_append, List.length_cons, List.length_nil] at this
            omega
theorem simF_sz : Sz L n simF := by
  intro ts ns x ts' ns' ht hp h
  unfold simF at h
  obtain ⟨m, t1, n1, e1, hh⟩ := bind_eq h; clear h; have h := hh; clear hh
  have h1 := sim_sz _ _ _ _ _ _ _ ht.good e1
  obtain ⟨_, hn1, _⟩ := sim_good _ _ _ _ _ _ _ ht.good e1
  subst hn1
  have hl := ht.len
  split at h
  · exact (wrong_ok h).elim
  · obtain ⟨_, _, rfl⟩ := lay_ok h
    refine hp.lay fun _ => ?_
    simp only [List.length_nil] at h1
    omega
theorem cmp_sz {core : Drd} (hd : DecD 5 core) (hc : ∀ d, FineC (core d)) (hb : ∀ d, SzH L n (core d)) (d : Nat) : SzH L n (cmpF core d) := by
  intro ts ns x ts' ns' ht hh hp h
  unfold cmpF at h
  obtain ⟨y, t1, n1, e1, hh⟩ := bind_eq h; clear h; have h := hh; clear hh
  have e2 := within_yes e1
  have hp1 := hb _ _ _ _ _ _ ht hh hp e2
  have dl := hd _ _ _ _ _ _ ht.good e2
  obtain ⟨s1, w1, s, m, hsn, hnr, hnk⟩ := hc _ _ _ _ _ _ ht.good ht.tw hh e2
  obtain ⟨l, t2, n2, e3, hh⟩ := bind_eq h; clear h; have h := hh; clear hh
  obtain ⟨_, hn2, _⟩ := redirF_good dl.good e3
  subst hn2
  injection h with h1 h2 h3
  subst h3
  have hx : y = (n2.length : Int) - 1 := dl.last
  rw [hx, hsn, setRd_last]
  have hs : Pn n s := fun u hu => hp1 u (by rw [hsn]; exact List.mem_append_left _ hu)
  exact hs.lay2 hnk
theorem fun_sz {cmp : Drd} (hb : ∀ d, SzH L n (cmp d)) (d : Nat) {ts : List Tok} {ns : List Nd} {x : Int} {ts' : List Tok} {ns' : List Nd} (ht : T3 L n ts) (hf : funB ts = true) (hp : Pn n ns) (h : funF cmp d ts ns = .ok x ts' ns') : Pn n ns' := by
  obtain ⟨t, r, rfl, hk, hr⟩ := fun_h hf
  unfold funF at h
  rw [List.tail_cons] at h
  have hgr := ht.tail (by omega)
  obtain ⟨_, t1, n1, e1, hh⟩ := bind_eq h; clear h; have h := hh; clear hh
  obtain ⟨ht1, _, hn1⟩ := hgr.need e1
  subst hn1
  obtain ⟨_, t2, n2, e2, hh⟩ := bind_eq h; clear h; have h := hh; clear hh
  obtain ⟨ht2, _, hn2⟩ := ht1.need e2
  subst hn2
  split at h
  · rename_i hh
    obtain ⟨y, t3, n3, e3, hh⟩ := bind_eq h; clear h; have h := hh; clear hh
    have hp3 := hb _ _ _ _ _ _ ht2.breaks.1 hh hp e3
    exact hp3.layR (by intro e; have h2 : (15 : Int) = 1 := e; omega) h
  · exact (wrong_ok h).elim
theorem cmd_sz {cmp : Drd} (hb : ∀ d, SzH L n (cmp d)) (d : Nat) : Sz L n (cmdF cmp d) := by
  intro ts ns x ts' ns' ht hp h
  unfold cmdF at h
  split at h
  · exact hb d _ _ _ _ _ ht (by assumption) hp h
  · split at h
    · rename_i hf
      exact fun_sz hb _ ht hf hp (within_yes h)
    · exact simF_sz _ _ _ _ _ ht hp h
theorem lst_sz {cmp : Drd} (hd : DecD 5 cmp) (hc : ∀ d, FineH (cmp d)) (hb : ∀ d, SzH L n (cmp d)) (d : Nat) : Sz L n (lstF cmp d) :=
  list_sz (item_dec (pipe_dec (cmd_dec hd d))) (item_fine (pipe_dec (cmd_dec hd d)) (pipe_fine (cmd_dec hd d) (cmd_fine hd hc d)))
    (item_sz (pipe_dec (cmd_dec hd d)) (pipe_fine (cmd_dec hd d) (cmd_fine hd hc d)) (pipe_sz (cmd_dec hd d) (cmd_fine hd hc d) (cmd_sz hb d)))
theorem ifs_sz {lst : Rdr} (hd : Dec 2 lst) (hi : Fine lst) (hb : Sz L n lst) : ∀ (f : Nat) (ts : List Tok) (ns : List Nd) (x : Int) (ts' : List Tok) (ns' : List Nd), T3 L n ts → Pn n ns → ifsF lst f ts ns = .ok x ts' ns' → Pn n ns' := by
  intro f
  induction f with
  | zero => intro ts ns x ts' ns' _ _ h; cases h
  | succ f ih =>
    intro ts ns x ts' ns' ht hp h
    rw [ifsF] at h
    obtain ⟨a, t1, n1, e1, hh⟩ := bind_eq h; clear h; have h := hh; clear hh
    have ht1 := (ht.read hd hi e1).1
    have hp1 := hb _ _ _ _ _ ht hp e1
    obtain ⟨_, t2, n2, e2, hh⟩ := bind_eq h; clear h; have h := hh; clear hh
    obtain ⟨ht2, _, hn2⟩ := ht1.need e2
    subst hn2
    obtain ⟨b, t3, n3, e3, hh⟩ := bind_eq h; clear h; have h := hh; clear hh
    have ht3 := (ht2.read hd hi e3).1
    have hp3 := hb _ _ _ _ _ ht2 hp1 e3
    split at h
    · rename_i hel
      obtain ⟨c, t4, n4, e4, hh⟩ := bind_eq h; clear h; have h := hh; clear hh
      exact (ih _ _ _ _ _ (ht3.is hel).1 hp3 e4).layR (kd_ne (by decide)) h
    · split at h
      · rename_i hel
        have ht4 := (ht3.is hel).1
        obtain ⟨c, t4, n4, e4, hh⟩ := bind_eq h; clear h; have h := hh; clear hh
        have hp4 := hb _ _ _ _ _ ht4 hp3 e4
        obtain ⟨_, t5, n5, e5, hh⟩ := bind_eq h; clear h; have h := hh; clear hh
        obtain ⟨_, _, hn5⟩ := (ht4.read hd hi e4).1.need e5
        subst hn5
        exact hp4.layR (kd_ne (by decide)) h
      · obtain ⟨_, t5, n5, e5, hh⟩ := bind_eq h; clear h; have h := hh; clear hh
        obtain ⟨_, _, hn5⟩ := ht3.need e5
        subst hn5
        exact hp3.layR (kd_ne (by decide)) h
theorem case_sz {lst : Rdr} (hd : Dec 2 lst) (hi : Fine lst) (hb : Sz L n lst) : ∀ (f : Nat) (m : Nd) (ts : List Tok) (ns : List Nd) (m' : Nd) (ts' : List Tok) (ns' : List Nd), T3 L n ts → Pn n ns → caseL lst f m ts ns = .ok m' ts' ns' → Pn n ns' := by
  intro f
  induction f with
  | zero => intro m ts ns m' ts' ns' _ _ h; cases h
  | succ f ih =>
    intro m ts ns m' ts' ns' ht hp h
    rw [caseL] at h
    split at h
    · injection h with h1 h2 h3
      subst h3
      exact hp
    · have gp := par_good ht.good
      have pc := par_cnt ht.tw
      have htp : T3 L n (if sgnB ts sPar = true then ts.tail else ts) := ht.step gp.1 pc.1 gp.2
      obtain ⟨s, t1, n1, e1, hh⟩ := bind_eq h; clear h; have h := hh; clear hh
      obtain ⟨_, _, hn1, _⟩ := any_ok htp.good e1
      subst hn1
      have ht1 := (htp.any e1).1
      obtain ⟨p, t2, n2, e2, hh⟩ := bind_eq h; clear h; have h := hh; clear hh
      obtain ⟨_, _, hn2, _⟩ := pats_ok _ _ _ _ _ _ _ ht1.good e2
      subst hn2
      have ht2 := (ht1.pats e2).1
      obtain ⟨_, t3, n3, e3, hh⟩ := bind_eq h; clear h; have h := hh; clear hh
      obtain ⟨ht3, _, hn3⟩ := ht2.need e3
      subst hn3
      have htb := ht3.breaks.1
      obtain ⟨x, t4, n4, e4, hh⟩ := bind_eq h; clear h; have h := hh; clear hh
      have h4 : T3 L n t4 ∧ Pn n n4 := by
        split at e4
        · exact ⟨(htb.read hd hi e4).1, hb _ _ _ _ _ htb hp e4⟩
        · injection e4 with h1 h2 h3
          subst h1 h2 h3
          exact ⟨htb, hp⟩
      split at h
      · rename_i hs2
        exact ih _ _ _ _ _ _ (h4.1.is hs2).1.breaks.1 h4.2 h
      · injection h with h1 h2 h3
        subst h3
        exact h4.2
theorem caseF_sz {lst : Rdr} (hd : Dec 2 lst) (hi : Fine lst) (hb : Sz L n lst) {ts : List Tok} {ns : List Nd} {m : Nd} {ts' : List Tok} {ns' : List Nd} (ht : T3 L n ts) (hp : Pn n ns) (h : caseF lst ts ns = .ok m ts' ns') : Pn n ns' := by
  unfold caseF at h
  obtain ⟨s, t1, n1, e1, hh⟩ := bind_eq h; clear h; have h := hh; clear hh
  obtain ⟨_, _, hn1, _⟩ := any_ok ht.good e1
  subst hn1
  have ht1 := (ht.any e1).1.breaks.1
  obtain ⟨_, t3, n3, e3, hh⟩ := bind_eq h; clear h; have h := hh; clear hh
  obtain ⟨ht3, _, hn3⟩ := ht1.need e3
  subst hn3
  have ht4 := ht3.breaks.1
  obtain ⟨m2, t4, n4, e4, hh⟩ := bind_eq h; clear h; have h := hh; clear hh
  have hp4 := case_sz hd hi hb _ _ _ _ _ _ _ ht4 hp e4
  obtain ⟨g4, l4, _, _⟩ := case_loop hd _ _ _ _ _ _ _ ht4.good e4
  obtain ⟨_, t5, n5, e5, hh⟩ := bind_eq h; clear h; have h := hh; clear hh
  obtain ⟨_, _, hn5, _, _⟩ := need_ok g4 e5
  subst hn5
  injection h with h1 h2 h3
  subst h3
  exact hp4
theorem coreS_sz {lst : Rdr} (hd : Dec 2 lst) (hi : Fine lst) (hb : Sz L n lst) (s : List UInt8) {ts : List Tok} {ns : List Nd} {x : Int} {ts' : List Tok} {ns' : List Nd} (ht : T3 L n ts) (hp : Pn n ns) (h : coreS lst s ts ns = .ok x ts' ns') : Pn n ns' := by
  have one : ∀ (kd : Int) (c : List UInt8), kd ≠ 1 → ((lst ts ns).bind fun x ts ns => (needR c ts ns).bind fun _ ts ns => layR { kind := kd, kids := [x] } ts ns) = .ok x ts' ns' → Pn n ns' := by
    intro kd c hk h
    obtain ⟨y, t1, n1, e1, hh⟩ := bind_eq h; clear h; have h := hh; clear hh
    have hp1 := hb _ _ _ _ _ ht hp e1
    obtain ⟨_, t5, n5, e5, hh⟩ := bind_eq h; clear h; have h := hh; clear hh
    obtain ⟨_, _, hn5⟩ := (ht.read hd hi e1).1.need e5
    subst hn5
    exact hp1.layR (kd_ne hk) h
  unfold coreS at h
  split at h
  · exact one 8 wClose (by decide) h
  · split at h
    · exact one 9 sRap (by decide) h
    · split at h
      · exact ifs_sz hd hi hb _ _ _ _ _ _ ht hp h
      · split at h
        · obtain ⟨m, t1, n1, e1, hh⟩ := bind_eq h; clear h; have h := hh; clear hh
          obtain ⟨g1, l1, hn1⟩ := fors_ok ht.good e1
          subst hn1
          obtain ⟨f1, f2, _⟩ := fors_fine ht.good ht.tw e1
          have ht1 : T3 L n t1 := ht.step g1 f1 (by omega)
          obtain ⟨y, t2, n2, e2, hh⟩ := bind_eq h; clear h; have h := hh; clear hh
          have hp2 := hb _ _ _ _ _ ht1 hp e2
          obtain ⟨_, t5, n5, e5, hh⟩ := bind_eq h; clear h; have h := hh; clear hh
          obtain ⟨_, _, hn5⟩ := (ht1.read hd hi e2).1.need e5
          subst hn5
          exact hp2.layR (by intro e; have h2 : m.kind = 1 := e; omega) h
        · split at h
          · obtain ⟨m, t1, n1, e1, hh⟩ := bind_eq h; clear h; have h := hh; clear hh
            obtain ⟨_, _, _, ⟨r4, _⟩, _⟩ := caseF_fine hd hi ht.good ht.tw e1
            exact (caseF_sz hd hi hb ht hp e1).layR (by omega) h
          · obtain ⟨y, t1, n1, e1, hh⟩ := bind_eq h; clear h; have h := hh; clear hh
            have ht1 := (ht.read hd hi e1).1
            have hp1 := hb _ _ _ _ _ ht hp e1
            obtain ⟨_, t2, n2, e2, hh⟩ := bind_eq h; clear h; have h := hh; clear hh
            obtain ⟨ht2, _, hn2⟩ := ht1.need e2
            subst hn2
            obtain ⟨z, t3, n3, e3, hh⟩ := bind_eq h; clear h; have h := hh; clear hh
            have ht3 := (ht2.read hd hi e3).1
            have hp3 := hb _ _ _ _ _ ht2 hp1 e3
            obtain ⟨_, t5, n5, e5, hh⟩ := bind_eq h; clear h; have h := hh; clear hh
            obtain ⟨_, _, hn5⟩ := ht3.need e5
            subst hn5
            refine hp3.layR (kd_ne ?_) h
            split
            · decide
            · split <;> decide
theorem coreF_sz {lst : Drd} (hd : DecD 2 lst) (hi : ∀ d, Fine (lst d)) (hb : ∀ d, Sz L n (lst d)) (d : Nat) : SzH L n (coreF lst d) := by
  intro ts ns x ts' ns' ht hh hp h
  obtain ⟨t, r, rfl⟩ := ht.good.ne
  unfold coreF at h
  simp only [] at h
  split at h
  · cases h
  · rename_i hk
    exact coreS_sz (hd d) (hi d) (hb d) _ (ht.tail hk) hp h
theorem core_sz (L n : Nat) : ∀ f d, SzH L n (core f d)
  | 0, _ => fun _ _ _ _ _ _ _ _ h => by cases h
  | f + 1, d => coreF_sz (lst_dec (cmp_dec (core_dec f))) (lst_fine (cmp_dec (core_dec f)) (cmp_fine (core_dec f) (core_fine f))) (lst_sz (cmp_dec (core_dec f)) (cmp_fine (core_dec f) (core_fine f)) (cmp_sz (core_dec f) (core_fine f) (core_sz L n f))) d
theorem lst_sz_all (L n f d : Nat) : Sz L n (lst f d) := lst_sz (cmp_dec (core_dec f)) (cmp_fine (core_dec f) (core_fine f)) (cmp_sz (core_dec f) (core_fine f) (core_sz L n f)) d
theorem parse_sz {L : Nat} {ts : List Tok} (h : Toks L ts) : Pn 401 (parseT ts).ns := by
  have none : Pn 401 [] := fun m hm => by cases hm
  have ht : T3 L 401 ts := ⟨h.good, h.tw, h.at_, h.len⟩
  have gb := ht.breaks.1
  obtain ⟨t, r, hbr⟩ := gb.good.ne
  unfold parseT
  rw [hbr] at gb ⊢
  simp only []
  by_cases hk : t.k = 4
  · rw [if_pos hk]; exact none
  · rw [if_neg hk]
    cases hl : lst ts.length 0 (t :: r) [] with
    | bad a e => exact none
    | ok x t1 n1 =>
      have hp := lst_sz_all L 401 ts.length 0 _ _ _ _ _ gb none hl
      cases t1 with
      | nil => exact none
      | cons u q =>
        simp only []
        split
        · exact none
        · split
          · exact none
          · exact hp
theorem parseF_sz (s : List UInt8) : Pn 401 (parseF s).ns := by
  unfold parseF
  cases ha : allF s with
  | err a e => exact fun m hm => by cases hm
  | ok ts => exact parse_sz (all_toks ha).2

end Go.Proofs.Ytgpfjcogaheopaa
