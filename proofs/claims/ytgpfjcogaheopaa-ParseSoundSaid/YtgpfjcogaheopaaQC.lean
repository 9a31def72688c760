/- The plain parser's nodes: simple commands and compounds. -/
import Derived.Test.YtgpfjcogaheopaaQB
namespace Go.Proofs.Ytgpfjcogaheopaa
open Lx
set_option maxRecDepth 100000

theorem wt_words (n : Nd) (s : List UInt8) : wt { n with words := n.words ++ [s] } = wt n + plainN [s] := by
  unfold wt
  simp only [plainN_app]
  omega
theorem wt_sets (n : Nd) (s : List UInt8) : wt { n with sets := n.sets ++ [s] } = wt n + 1 := by
  unfold wt
  simp only [List.length_append, List.length_singleton]
  omega
theorem wt_redirs (n : Nd) (l : List Rd) : wt { n with redirs := n.redirs ++ l } = wt n + plainN (l.map Rd.wd) := by
  unfold wt
  simp only [List.map_append, plainN_app]
  omega
theorem rdr_k {t : Tok} (h : rdrB t = true) : t.k = 2 := by
  unfold rdrB at h
  rw [Bool.and_eq_true] at h
  exact eq_of_beq h.1
theorem redir_fine : ∀ (f : Nat) (acc : List Rd) (ts : List Tok) (ns : List Nd) (l : List Rd) (ts' : List Tok) (ns' : List Nd), Good ts → TW ts → redirL f acc ts ns = .ok l ts' ns' →
    (∀ t ∈ ts', t ∈ ts) ∧ (∃ m, l = acc ++ m) ∧ ((∀ r ∈ l, digW r.wd = false) → plainN (l.map Rd.wd) + cnt ts' = plainN (acc.map Rd.wd) + cnt ts) := by
  intro f
  induction f with
  | zero => intro acc ts ns l ts' ns' _ _ h; cases h
  | succ f ih =>
    intro acc ts ns l ts' ns' hg hw h
    obtain ⟨t, r, rfl⟩ := hg.ne
    rw [redirL] at h
    have word : ∀ (x : Rd) (w : Tok) (rest : List Tok), x.wd = w.t → wkB (w :: rest) = true → Good rest → (∀ u ∈ (w :: rest), u ∈ (t :: r)) → redirL f (acc ++ [x]) rest ns = .ok l ts' ns' →
        (∀ u ∈ ts', u ∈ (t :: r)) ∧ (∃ m, l = acc ++ m) ∧ ((∀ r ∈ l, digW r.wd = false) → plainN (l.map Rd.wd) + cnt ts' = plainN (acc.map Rd.wd) + cnt (w :: rest)) := by
      intro x w rest hx hwk hgr hsub h
      obtain ⟨q1, ⟨m, q2⟩, q3⟩ := ih _ _ _ _ _ _ hgr (fun u hu => hw u (hsub u (List.mem_cons_of_mem _ hu))) h
      refine ⟨fun u hu => hsub u (List.mem_cons_of_mem _ (q1 u hu)), ⟨[x] ++ m, by rw [q2]; simp⟩, fun hd => ?_⟩
      have h1 := q3 hd
      have hxd := hd x (by rw [q2]; simp)
      have hk : w.k = 1 := by
        unfold wkB at hwk
        simp only [Bool.or_eq_true, beq_iff_eq] at hwk
        rcases hwk with e | e
        · exact e
        · have := (hw w (hsub w (List.mem_cons_self ..))).2 e
          rw [hx, this] at hxd
          cases hxd
      rw [h1, cnt_word hk, List.map_append, plainN_app]
      simp only [List.map_cons, List.map_nil, hx]
      omega
    split at h
    · rename_i h3
      rw [Bool.and_eq_true] at h3
      have hk : t.k = 3 := eq_of_beq h3.1
      have g1 := hg.tail (by omega)
      obtain ⟨o, r, rfl⟩ := g1.ne
      have ho : o.k = 2 := rdr_k h3.2
      have g2 := g1.tail (by omega)
      obtain ⟨w, r, rfl⟩ := g2.ne
      split at h
      · rename_i hwk
        have g3 := g2.tail (by intro e; simp [wkB, e] at hwk)
        obtain ⟨q1, q2, q3⟩ := word _ w r rfl hwk g3 (fun u hu => List.mem_cons_of_mem _ (List.mem_cons_of_mem _ hu)) h
        refine ⟨q1, q2, fun hd => ?_⟩
        rw [q3 hd, cnt_no (t := t) (by rw [hk]; rfl), cnt_no (t := o) (by rw [ho]; rfl)]
      · exact (wrong_ok h).elim
    · split at h
      · rename_i h4
        have ho : t.k = 2 := rdr_k h4
        have g2 := hg.tail (by omega)
        obtain ⟨w, r, rfl⟩ := g2.ne
        split at h
        · rename_i hwk
          have g3 := g2.tail (by intro e; simp [wkB, e] at hwk)
          obtain ⟨q1, q2, q3⟩ := word _ w r rfl hwk g3 (fun u hu => List.mem_cons_of_mem _ hu) h
          refine ⟨q1, q2, fun hd => ?_⟩
          rw [q3 hd, cnt_no (t := t) (by rw [ho]; rfl)]
        · exact (wrong_ok h).elim
      · injection h with h1 h2 h3
        subst h1 h2 h3
        exact ⟨fun _ h => h, ⟨[], by simp⟩, fun _ => rfl⟩
theorem redirF_fine {ts : List Tok} {ns : List Nd} {l : List Rd} {ts' : List Tok} {ns' : List Nd} (hg : Good ts) (hw : TW ts) (h : redirF ts ns = .ok l ts' ns') : (∀ t ∈ ts', t ∈ ts) ∧ ((∀ r ∈ l, digW r.wd = false) → plainN (l.map Rd.wd) + cnt ts' = cnt ts) := by
  obtain ⟨h1, _, h2⟩ := redir_fine _ _ _ _ _ _ _ hg hw h
  exact ⟨h1, fun hd => by have := h2 hd; simpa [plainN] using this⟩
theorem res_set : ∀ s ∈ resW, setB s = false := by decide
theorem set_plain {s : List UInt8} (h : setB s = true) : resB s = false := by
  cases hr : resB s with
  | false => rfl
  | true =>
    have hm : s ∈ resW := by unfold resB at hr; simpa using hr
    rw [res_set s hm] at h
    cases h
theorem sim_fine : ∀ (f : Nat) (n : Nd) (ts : List Tok) (ns : List Nd) (m : Nd) (ts' : List Tok) (ns' : List Nd), Good ts → TW ts → simL f n ts ns = .ok m ts' ns' →
    (∀ t ∈ ts', t ∈ ts) ∧ (m.kind = n.kind ∧ m.kids = n.kids ∧ m.name = n.name ∧ ∃ l, m.redirs = n.redirs ++ l) ∧ (df m → wt m + cnt ts' = wt n + cnt ts) := by
  intro f
  induction f with
  | zero => intro n ts ns m ts' ns' _ _ h; cases h
  | succ f ih =>
    intro n ts ns m ts' ns' hg hw h
    rw [simL] at h
    obtain ⟨l, t1, n1, he, hh⟩ := bind_eq h
    clear h
    have h := hh
    clear hh
    obtain ⟨hg1, hn1, _⟩ := redirF_good hg he
    obtain ⟨hs1, hc1⟩ := redirF_fine hg hw he
    subst hn1
    have hw1 : TW t1 := hw.sub hs1
    obtain ⟨t, r, rfl⟩ := hg1.ne
    simp only [] at h
    have stay : PR.ok { n with redirs := n.redirs ++ l } (t :: r) n1 = PR.ok m ts' ns' → (∀ u ∈ ts', u ∈ ts) ∧ (m.kind = n.kind ∧ m.kids = n.kids ∧ m.name = n.name ∧ ∃ l, m.redirs = n.redirs ++ l) ∧ (df m → wt m + cnt ts' = wt n + cnt ts) := by
      intro h
      injection h with h1 h2 h3
      subst h1 h2 h3
      refine ⟨hs1, ⟨rfl, rfl, rfl, l, rfl⟩, fun hd => ?_⟩
      have := hc1 (fun r hr => hd r (List.mem_append_right _ hr))
      rw [wt_redirs]
      omega
    split at h
    · exact stay h
    · rename_i hk
      have hk1 : t.k = 1 := by omega
      have go : ∀ (n2 : Nd), n2.kind = n.kind ∧ n2.kids = n.kids ∧ n2.name = n.name ∧ n2.redirs = n.redirs ++ l → wt n2 = wt n + plainN (l.map Rd.wd) + plainN [t.t] → simL f n2 r n1 = .ok m ts' ns' → (∀ u ∈ ts', u ∈ ts) ∧ (m.kind = n.kind ∧ m.kids = n.kids ∧ m.name = n.name ∧ ∃ l, m.redirs = n.redirs ++ l) ∧ (df m → wt m + cnt ts' = wt n + cnt ts) := by
        intro n2 hn2 hwt h
        obtain ⟨q1, ⟨q2, q3, q4, l2, q5⟩, q6⟩ := ih _ _ _ _ _ _ (hg1.tail (by omega)) hw1.tail h
        refine ⟨fun u hu => hs1 u (List.mem_cons_of_mem _ (q1 u hu)), ⟨q2.trans hn2.1, q3.trans hn2.2.1, q4.trans hn2.2.2.1, l ++ l2, by rw [q5, hn2.2.2.2]; simp⟩, fun hd => ?_⟩
        have h1 := q6 hd
        have h2 := hc1 (fun r hr => hd r (by rw [q5, hn2.2.2.2]; simp [hr]))
        rw [cnt_word hk1] at h2
        omega
      have wW : wt { n with redirs := n.redirs ++ l, words := n.words ++ [t.t] } = wt n + plainN (l.map Rd.wd) + plainN [t.t] := (wt_words { n with redirs := n.redirs ++ l } t.t).trans (by rw [wt_redirs])
      split at h
      · exact go { n with redirs := n.redirs ++ l, words := n.words ++ [t.t] } ⟨rfl, rfl, rfl, rfl⟩ wW h
      · split at h
        · rename_i hset
          refine go { n with redirs := n.redirs ++ l, sets := n.sets ++ [t.t] } ⟨rfl, rfl, rfl, rfl⟩ ?_ h
          have e1 := wt_sets { n with redirs := n.redirs ++ l } t.t
          have e2 := wt_redirs n l
          have e3 := set_plain hset
          have e4 : plainN [t.t] = 1 := by simp [plainN, e3]
          rw [e4]
          exact e1.trans (by rw [e2])
        · split at h
          · exact stay h
          · exact go { n with redirs := n.redirs ++ l, words := n.words ++ [t.t] } ⟨rfl, rfl, rfl, rfl⟩ wW h
theorem simF_fine : Fine simF := by
  intro ts ns x ts' ns' hg hw h
  unfold simF at h
  obtain ⟨n, t1, n1, he, hh⟩ := bind_eq h
  clear h
  have h := hh
  clear hh
  obtain ⟨_, hn1, _⟩ := sim_good _ _ _ _ _ _ _ hg he
  obtain ⟨h1, ⟨h2, h3, h4, _⟩, h5⟩ := sim_fine _ _ _ _ _ _ _ hg hw he
  subst hn1
  split at h
  · exact (wrong_ok h).elim
  · rename_i h0
    obtain ⟨rfl, rfl, rfl⟩ := lay_ok h
    refine ⟨⟨h1, ⟨[n], rfl⟩, fun hd => ?_⟩, lay_wb (c := false) (.inl ⟨h2, h3, by omega, h4⟩) (by rw [h2]; rfl) fun bs hb => ⟨[], by simpa using hb, by rw [h3]; exact Chn.nil _ _ _⟩⟩
    have h6 := h5 (hd n (by simp))
    have h7 : wt { kind := 1 } = 0 := by simp [wt, plainN]
    rw [wtN_app, wtN_one]
    omega

/-! ### compounds -/
/-- A compound's reader: what it leaves last is no simple command, and has no redirections. -/
def FineH (f : Rdr) : Prop := ∀ ts ns x ts' ns', Good ts → TW ts → cmpH ts = true → f ts ns = .ok x ts' ns' → Sg ts ns ts' ns' ∧ Wb ns ns'
def FineC (f : Rdr) : Prop := ∀ ts ns x ts' ns', Good ts → TW ts → cmpH ts = true → f ts ns = .ok x ts' ns' → Sg ts ns ts' ns' ∧ Wb ns ns' ∧ ∃ s n, ns' = s ++ [n] ∧ n.redirs = [] ∧ n.kind ≠ 1
theorem WB.inv {s : List Nd} {n : Nd} {bs : List Nat} (h : WB (s ++ [n]) bs) : ∃ bs0 b, bs = bs0 ++ [b] ∧ WB s bs0 ∧ NdOk n ∧ goK bs0 (n.kind == 14) n.kids.reverse bs0.length = some b := by
  generalize hx : s ++ [n] = x at h
  cases h with
  | nil => simp at hx
  | @snoc ns bs0 n' b h1 h2 h3 =>
    obtain ⟨rfl, e⟩ := List.append_inj' hx rfl
    injection e with e
    subst e
    exact ⟨bs0, b, rfl, h1, h2, h3⟩
theorem ndok_redirs {n : Nd} (l : List Rd) (hk : n.kind ≠ 1) (h : NdOk n) : NdOk { n with redirs := l } := by
  rcases h with h | h
  · exact absurd h.1 hk
  · exact .inr h
theorem setRd_last (s : List Nd) (n : Nd) (l : List Rd) : setRd (s ++ [n]) ((s ++ [n]).length - 1 : Int) l = s ++ [{ n with redirs := l }] := by
  unfold setRd
  have : (((s ++ [n]).length : Int) - 1).toNat = s.length := by simp
  rw [this]
  clear this
  induction s with
  | nil => rfl
  | cons a s ih => simp only [List.cons_append, List.length_cons, List.modify_succ_cons]; rw [ih]
theorem within_h {P : Rdr → Prop} {f : Drd} (hP : ∀ d, P (f d)) (hmono : ∀ d, (∀ ts ns x ts' ns', withinF f d ts ns = .ok x ts' ns' → f (d + 1) ts ns = .ok x ts' ns') → P (f (d + 1)) → P (withinF f d)) (d : Nat) : P (withinF f d) := by
  refine hmono d (fun ts ns x ts' ns' h => ?_) (hP (d + 1))
  unfold withinF at h
  split at h
  · cases h
  · exact h
theorem cmp_fine {core : Drd} (hd : DecD 5 core) (hc : ∀ d, FineC (core d)) (d : Nat) : FineH (cmpF core d) := by
  intro ts ns x ts' ns' hg hw hh h
  unfold cmpF at h
  obtain ⟨y, t1, n1, he, hh⟩ := bind_eq h
  clear h
  have h := hh
  clear hh
  have hl := within_dec hd d ts ns _ _ _ hg he
  have he' : core (d + 1) ts ns = .ok y t1 n1 := by
    unfold withinF at he
    split at he
    · cases he
    · exact he
  obtain ⟨s1, w1, s, n, hsn, hnr, hnk⟩ := hc _ _ _ _ _ _ hg hw hh he'
  obtain ⟨l, t2, n2, he2, hh⟩ := bind_eq h
  clear h
  have h := hh
  clear hh
  obtain ⟨_, hn2, _⟩ := redirF_good hl.good he2
  obtain ⟨r1, r2⟩ := redirF_fine hl.good (hw.sub s1.sub) he2
  subst hn2
  injection h with e1 e2 e3
  subst e1 e2 e3
  have hx : y = (n2.length : Int) - 1 := hl.last
  have hset : setRd n2 y l = s ++ [{ n with redirs := l }] := by rw [hx, hsn]; exact setRd_last s n l
  rw [hset]
  obtain ⟨seg, hseg⟩ := s1.pre
  have hmo := hl.more
  refine ⟨⟨fun t ht => s1.sub t (r1 t ht), ?_, fun hdf => ?_⟩, fun bs hb => ?_⟩
  · rcases List.eq_nil_or_concat seg with e | ⟨sg0, n0, e⟩
    · rw [hseg, e] at hmo
      simp at hmo
    · rw [List.concat_eq_append] at e
      rw [hsn, e, ← List.append_assoc] at hseg
      obtain ⟨e1, _⟩ := List.append_inj' hseg rfl
      exact ⟨sg0 ++ [{ n with redirs := l }], by rw [e1, List.append_assoc]⟩
  · have hdl : ∀ r ∈ l, digW r.wd = false := hdf { n with redirs := l } (by simp)
    have h1 := r2 hdl
    have hdn : DF n2 := by
      rw [hsn]
      intro m hm
      rw [List.mem_append, List.mem_singleton] at hm
      rcases hm with hm | rfl
      · exact hdf m (List.mem_append_left _ hm)
      · intro r hr; rw [hnr] at hr; cases hr
    have h2 := s1.wts hdn
    rw [hsn, wtN_app, wtN_one] at h2
    have h3 : wt { n with redirs := l } = wt n + plainN (l.map Rd.wd) := by
      have := wt_redirs n l
      rw [hnr, List.nil_append] at this
      exact this
    rw [wtN_app, wtN_one, h3]
    omega
  · obtain ⟨cs, c1, c2⟩ := w1 bs hb
    rw [hsn] at c1
    obtain ⟨bs0, b, q1, q2, q3, q4⟩ := c1.inv
    refine ⟨cs, ?_, ?_⟩
    · rw [q1]
      exact .snoc q2 (ndok_redirs l hnk q3) q4
    · rw [hsn] at c2
      simpa using c2
theorem fun_h {ts : List Tok} (h : funB ts = true) : ∃ t r, ts = t :: r ∧ t.k = 1 ∧ resB t.t = false := by
  unfold funB at h
  split at h
  · rename_i t u r
    simp only [Bool.and_eq_true] at h
    have h1 := h.1.1.1
    unfold namedB at h1
    rw [Bool.and_eq_true] at h1
    exact ⟨t, u :: r, rfl, eq_of_beq h1.1, by simpa using h.1.1.2⟩
  · cases h
theorem fun_fine {cmp : Drd} (hd : DecD 5 cmp) (hc : ∀ d, FineH (cmp d)) (d : Nat) (ts : List Tok) (ns : List Nd) (x : Int) (ts' : List Tok) (ns' : List Nd) (hg : Good ts) (hw : TW ts) (hf : funB ts = true) (h : funF cmp d ts ns = .ok x ts' ns') : Sg ts ns ts' ns' ∧ Wb ns ns' := by
  obtain ⟨t, r, rfl, hk, hr⟩ := fun_h hf
  unfold funF at h
  rw [List.tail_cons] at h
  have hgr := hg.tail (by omega)
  have hwr : TW r := hw.tail
  obtain ⟨u1, t1, n1, he1, hh⟩ := bind_eq h
  clear h
  have h := hh
  clear hh
  obtain ⟨hg1, _, hn1, _, _⟩ := need_ok hgr he1
  obtain ⟨s1, _⟩ := Sg.need hwr (.inr (by decide)) he1
  subst hn1
  obtain ⟨u2, t2, n2, he2, hh⟩ := bind_eq h
  clear h
  have h := hh
  clear hh
  obtain ⟨hg2, _, hn2, _, _⟩ := need_ok hg1 he2
  obtain ⟨s2, _⟩ := Sg.need (hwr.sub s1.sub) (.inr (by decide)) he2
  subst hn2
  have hb := breaks_good hg2
  have s3 := (s1.trans s2).trans (Sg.breaks (ns := n2) t2)
  split at h
  · rename_i hh
    obtain ⟨y, t3, n3, he3, hh⟩ := bind_eq h
    clear h
    have h := hh
    clear hh
    obtain ⟨s4, w4⟩ := hc _ _ _ _ _ _ hb.1 (hwr.sub s3.sub) hh he3
    have hl := hd _ _ _ _ _ _ hb.1 he3
    obtain ⟨rfl, rfl, rfl⟩ := lay_ok h
    have s5 := s3.trans s4
    have hne : t.t ≠ [] := ((hw t (List.mem_cons_self ..)).1 hk).1
    refine ⟨⟨fun u hu => List.mem_cons_of_mem _ (s5.sub u hu), ?_, fun hdf => ?_⟩, lay_wb (c := false) (.inr (.inr (.inl ⟨.inr rfl, rfl, hne⟩))) rfl fun bs hb => kids_fine hb w4 hl (Chn.nil _ _ _)⟩
    · obtain ⟨s, hs⟩ := s5.pre
      exact ⟨s ++ [_], by rw [hs, List.append_assoc]⟩
    · have h1 := s5.wts (fun m hm => hdf m (List.mem_append_left _ hm))
      have h2 : wt { kind := 15, name := nmH (t :: r), kids := [y] } = plainN [t.t] := by
        show _ + plainN (if t.t = [] then [] else [t.t]) + _ + _ + _ = _
        rw [if_neg hne]
        simp [plainN]
      rw [wtN_app, wtN_one, h2, cnt_word hk]
      omega
  · exact (wrong_ok h).elim
theorem cmd_fine {cmp : Drd} (hd : DecD 5 cmp) (hc : ∀ d, FineH (cmp d)) (d : Nat) : Fine (cmdF cmp d) := by
  intro ts ns x ts' ns' hg hw h
  unfold cmdF at h
  split at h
  · exact hc d _ _ _ _ _ hg hw (by assumption) h
  · split at h
    · rename_i hf
      unfold withinF at h
      split at h
      · cases h
      · exact fun_fine hd hc _ _ _ _ _ _ hg hw hf h
    · exact simF_fine _ _ _ _ _ hg hw h
theorem lst_fine {cmp : Drd} (hd : DecD 5 cmp) (hc : ∀ d, FineH (cmp d)) (d : Nat) : Fine (lstF cmp d) :=
  list_fine (item_dec (pipe_dec (cmd_dec hd d))) (item_fine (pipe_dec (cmd_dec hd d)) (pipe_fine (cmd_dec hd d) (cmd_fine hd hc d)))

end Go.Proofs.Ytgpfjcogaheopaa
