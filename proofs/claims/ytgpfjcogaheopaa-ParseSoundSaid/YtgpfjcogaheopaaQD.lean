/- The plain parser's nodes: compounds, lists, the whole. -/
import Derived.Test.YtgpfjcogaheopaaQC
namespace Go.Proofs.Ytgpfjcogaheopaa
open Lx
set_option maxRecDepth 100000

def Ends (ns : List Nd) : Prop := ∃ s n, ns = s ++ [n] ∧ n.redirs = [] ∧ n.kind ≠ 1
/-- Kids laid one behind the other. -/
def Ch (c : Bool) (ns ns1 : List Nd) (kids : List Int) : Prop := ∀ bs, WB ns bs → ∃ cs, WB ns1 (bs ++ cs) ∧ Chn c (bs ++ cs) kids ns1.length ns.length
theorem Ch.nil (c : Bool) (ns : List Nd) : Ch c ns ns [] := fun bs hb => ⟨[], by simpa using hb, by simpa using Chn.nil c bs ns.length⟩
theorem Ch.kid {c : Bool} {cc : Nat} {ns ns1 ns2 : List Nd} {kids : List Int} {t1 t2 : List Tok} {x : Int} (h : Ch c ns ns1 kids) (hw : Wb ns1 ns2) (hl : Left cc t1 ns1 x t2 ns2) : Ch c ns ns2 (kids ++ [x]) := by
  intro bs hb
  obtain ⟨cs, c1, c2⟩ := h bs hb
  obtain ⟨cs2, c3, c4⟩ := kids_fine c1 hw hl c2
  exact ⟨cs ++ cs2, by rw [← List.append_assoc]; exact c3, by rw [← List.append_assoc]; exact c4⟩
theorem Ch.skip {ns ns1 : List Nd} {kids : List Int} (h : Ch true ns ns1 kids) : Ch true ns ns1 (kids ++ [-1]) := by
  intro bs hb
  obtain ⟨cs, c1, c2⟩ := h bs hb
  exact ⟨cs, c1, c2.skip⟩
theorem lay_all {c : Bool} {ts t1 : List Tok} {ns n1 : List Nd} (n : Nd) (hsub : ∀ t ∈ t1, t ∈ ts) (hpre : ∃ s, n1 = ns ++ s) (hwt : DF n1 → wt n + wtN n1 + cnt t1 = wtN ns + cnt ts)
    (hok : NdOk n) (hc : (n.kind == 14) = c) (hr : n.redirs = []) (hk : n.kind ≠ 1) (hch : Ch c ns n1 n.kids) : Sg ts ns t1 (n1 ++ [n]) ∧ Wb ns (n1 ++ [n]) ∧ Ends (n1 ++ [n]) := by
  refine ⟨⟨hsub, ?_, fun hd => ?_⟩, lay_wb hok hc hch, ⟨n1, n, rfl, hr, hk⟩⟩
  · obtain ⟨s, rfl⟩ := hpre
    exact ⟨s ++ [n], by simp⟩
  · have := hwt (fun m hm => hd m (List.mem_append_left _ hm))
    rw [wtN_app, wtN_one]
    omega
theorem lay_sg {c : Bool} {ts t1 : List Tok} {ns n1 : List Nd} (n : Nd) (hs : Sg ts ns t1 n1) (h0 : wt n = 0)
    (hok : NdOk n) (hc : (n.kind == 14) = c) (hr : n.redirs = []) (hk : n.kind ≠ 1) (hch : Ch c ns n1 n.kids) : Sg ts ns t1 (n1 ++ [n]) ∧ Wb ns (n1 ++ [n]) ∧ Ends (n1 ++ [n]) :=
  lay_all n hs.sub hs.pre (fun hd => by have := hs.wts hd; omega) hok hc hr hk hch
theorem ifs_fine {lst : Rdr} (hd : Dec 2 lst) (hi : Fine lst) : ∀ (f : Nat) (ts : List Tok) (ns : List Nd) (x : Int) (ts' : List Tok) (ns' : List Nd), Good ts → TW ts → ifsF lst f ts ns = .ok x ts' ns' → Sg ts ns ts' ns' ∧ Wb ns ns' ∧ Ends ns' := by
  intro f
  induction f with
  | zero => intro ts ns x ts' ns' _ _ h; cases h
  | succ f ih =>
    intro ts ns x ts' ns' hg hw h
    rw [ifsF] at h
    obtain ⟨a, t1, n1, e1, hh⟩ := bind_eq h; clear h; have h := hh; clear hh
    have d1 := hd _ _ _ _ _ hg e1
    obtain ⟨s1, w1⟩ := hi _ _ _ _ _ hg hw e1
    obtain ⟨_, t2, n2, e2, hh⟩ := bind_eq h; clear h; have h := hh; clear hh
    obtain ⟨g2, _, _, _, _⟩ := need_ok d1.good e2
    obtain ⟨s2, hn2⟩ := Sg.need (hw.sub s1.sub) (.inl (by decide)) e2
    subst hn2
    have s12 := s1.trans s2
    obtain ⟨b, t3, n3, e3, hh⟩ := bind_eq h; clear h; have h := hh; clear hh
    have d3 := hd _ _ _ _ _ g2 e3
    obtain ⟨s3, w3⟩ := hi _ _ _ _ _ g2 (hw.sub s12.sub) e3
    have s13 := s12.trans s3
    have c2 := ((Ch.nil false ns).kid w1 d1).kid w3 d3
    have hw3 : TW t3 := hw.sub s13.sub
    split at h
    · rename_i hel
      have g4 := is_tail d3.good hel
      have s4 := s13.trans (Sg.is hw3 (.inl (by decide)) hel)
      obtain ⟨c, t5, n5, e5, hh⟩ := bind_eq h; clear h; have h := hh; clear hh
      have d5 := ifs_dec hd _ _ _ _ _ _ g4.1 e5
      obtain ⟨s5, w5, _⟩ := ih _ _ _ _ _ g4.1 (hw.sub s4.sub) e5
      obtain ⟨rfl, rfl, rfl⟩ := lay_ok h
      exact lay_sg (c := false) _ (s4.trans s5) (wt_kids _ _) (.inr (.inr (.inr (.inr (.inr (.inr (.inl ⟨rfl, by simp, by simp, rfl⟩))))))) rfl rfl (by intro h1; have h2 : (10 : Int) = 1 := h1; omega) (c2.kid w5 d5)
    · split at h
      · rename_i hel
        have g4 := is_tail d3.good hel
        have s4 := s13.trans (Sg.is hw3 (.inl (by decide)) hel)
        obtain ⟨c, t5, n5, e5, hh⟩ := bind_eq h; clear h; have h := hh; clear hh
        have d5 := hd _ _ _ _ _ g4.1 e5
        obtain ⟨s5, w5⟩ := hi _ _ _ _ _ g4.1 (hw.sub s4.sub) e5
        have s45 := s4.trans s5
        obtain ⟨_, t6, n6, e6, hh⟩ := bind_eq h; clear h; have h := hh; clear hh
        obtain ⟨s6, hn6⟩ := Sg.need (hw.sub s45.sub) (.inl (by decide)) e6
        subst hn6
        obtain ⟨rfl, rfl, rfl⟩ := lay_ok h
        exact lay_sg (c := false) _ (s45.trans s6) (wt_kids _ _) (.inr (.inr (.inr (.inr (.inr (.inr (.inl ⟨rfl, by simp, by simp, rfl⟩))))))) rfl rfl (by intro h1; have h2 : (10 : Int) = 1 := h1; omega) (c2.kid w5 d5)
      · obtain ⟨_, t6, n6, e6, hh⟩ := bind_eq h; clear h; have h := hh; clear hh
        obtain ⟨s6, hn6⟩ := Sg.need hw3 (.inl (by decide)) e6
        subst hn6
        obtain ⟨rfl, rfl, rfl⟩ := lay_ok h
        exact lay_sg (c := false) _ (s13.trans s6) (wt_kids _ _) (.inr (.inr (.inr (.inr (.inr (.inr (.inl ⟨rfl, by simp, by simp, rfl⟩))))))) rfl rfl (by intro h1; have h2 : (10 : Int) = 1 := h1; omega) c2
theorem words_fine : ∀ (ts : List Tok), (∀ t ∈ wordsR ts, t ∈ ts) ∧ plainN (wordsT ts) + cnt (wordsR ts) = cnt ts
  | [] => ⟨fun _ h => h, rfl⟩
  | t :: r => by
    obtain ⟨h1, h2⟩ := words_fine r
    unfold wordsR wordsT
    split
    · rename_i hk
      refine ⟨fun u hu => List.mem_cons_of_mem _ (h1 u hu), ?_⟩
      rw [cnt_word hk, show t.t :: wordsT r = [t.t] ++ wordsT r from rfl, plainN_app]
      omega
    · exact ⟨fun _ h => h, by simp [plainN]⟩
theorem named_k {t : Tok} (h : namedB t = true) : t.k = 1 := by
  unfold namedB at h
  rw [Bool.and_eq_true] at h
  exact eq_of_beq h.1
theorem wt_for (nm : List UInt8) (b : Bool) (l : List (List UInt8)) (kids : List Int) (h : nm ≠ []) : wt { kind := 13, name := nm, inn := b, words := l, kids := kids } = plainN [nm] + plainN l := by
  unfold wt
  rw [if_neg h]
  simp [plainN]
theorem take_cnt {ts : List Tok} {s : List UInt8} (hw : TW ts) (hs : resB s = true ∨ s ∈ sgs) : cnt (takeT ts s) = cnt ts := by
  have := (Sg.take (ns := []) hw hs).wts (fun _ h => by cases h)
  simpa using this
theorem breaks_cnt (ts : List Tok) : cnt (breaksF ts) = cnt ts := by
  have := (Sg.breaks (ns := []) ts).wts (fun _ h => by cases h)
  simpa using this
theorem need_cnt {ts : List Tok} {ns : List Nd} {s : List UInt8} {u : Unit} {ts' : List Tok} {ns' : List Nd} (hw : TW ts) (hs : resB s = true ∨ s ∈ sgs) (h : needR s ts ns = .ok u ts' ns') : cnt ts' = cnt ts := by
  unfold needR at h
  split at h
  · injection h with _ h1 h2
    subst h1
    exact is_cnt hw hs (by assumption)
  · exact (wrong_ok h).elim
theorem fors_fine {ts : List Tok} {ns : List Nd} {n : Nd} {ts' : List Tok} {ns' : List Nd} (hg : Good ts) (hw : TW ts) (h : forsF ts ns = .ok n ts' ns') :
    (∀ t ∈ ts', t ∈ ts) ∧ n.kind = 13 ∧ n.name ≠ [] ∧ n.redirs = [] ∧ n.kids = [] ∧ ∀ kids, wt { n with kids := kids } + cnt ts' = cnt ts := by
  obtain ⟨t, r, rfl⟩ := hg.ne
  unfold forsF at h
  simp only [] at h
  split at h
  · rename_i hnm
    have hk := named_k hnm
    have hne : t.t ≠ [] := ((hw t (List.mem_cons_self ..)).1 hk).1
    have sb := Sg.breaks (ns := ([] : List Nd)) r
    have hwb : TW (breaksF r) := hw.tail.sub sb.sub
    have cb := breaks_cnt r
    split at h
    · rename_i hin
      have c1 := is_cnt hwb (.inl (by decide)) hin
      have wf := words_fine (breaksF r).tail
      have hwu : TW (wordsR (breaksF r).tail) := hwb.tail.sub wf.1
      split at h
      · rename_i hs
        have c2 : cnt (wordsR (breaksF r).tail).tail = cnt (wordsR (breaksF r).tail) := by
          rw [Bool.or_eq_true] at hs
          rcases hs with hs | hs
          · exact is_cnt hwu (.inr (by decide)) hs
          · exact is_cnt hwu (.inr (by decide)) hs
        have c3 := breaks_cnt (wordsR (breaksF r).tail).tail
        have sb2 := Sg.breaks (ns := ([] : List Nd)) (wordsR (breaksF r).tail).tail
        have hw2 : TW (breaksF (wordsR (breaksF r).tail).tail) := hwu.tail.sub sb2.sub
        obtain ⟨_, t2, n2, e2, hh⟩ := bind_eq h; clear h; have h := hh; clear hh
        have c4 := need_cnt hw2 (.inl (by decide)) e2
        obtain ⟨s2, hn2⟩ := Sg.need hw2 (.inl (by decide)) e2
        injection h with h1 h2 h3
        subst h1 h2
        refine ⟨fun u hu => List.mem_cons_of_mem _ (sb.sub u (List.mem_of_mem_tail (wf.1 u (List.mem_of_mem_tail (sb2.sub u (s2.sub u hu)))))), rfl, hne, rfl, rfl, fun kids => ?_⟩
        show wt { kind := 13, name := t.t, inn := true, words := wordsT (breaksF r).tail, kids := kids } + _ = _
        rw [wt_for _ _ _ _ hne, cnt_word hk]
        omega
      · exact (wrong_ok h).elim
    · have c1 := take_cnt (s := sSemi) hwb (.inr (by decide))
      have st := Sg.take (ns := ([] : List Nd)) (s := sSemi) hwb (.inr (by decide))
      have c3 := breaks_cnt (takeT (breaksF r) sSemi)
      have sb2 := Sg.breaks (ns := ([] : List Nd)) (takeT (breaksF r) sSemi)
      have hw2 : TW (breaksF (takeT (breaksF r) sSemi)) := (hwb.sub st.sub).sub sb2.sub
      obtain ⟨_, t2, n2, e2, hh⟩ := bind_eq h; clear h; have h := hh; clear hh
      have c4 := need_cnt hw2 (.inl (by decide)) e2
      obtain ⟨s2, hn2⟩ := Sg.need hw2 (.inl (by decide)) e2
      injection h with h1 h2 h3
      subst h1 h2
      refine ⟨fun u hu => List.mem_cons_of_mem _ (sb.sub u (st.sub u (sb2.sub u (s2.sub u hu)))), rfl, hne, rfl, rfl, fun kids => ?_⟩
      show wt { kind := 13, name := t.t, inn := false, words := [], kids := kids } + _ = _
      rw [wt_for _ _ _ _ hne, cnt_word hk]
      simp only [plainN, List.filter_nil, List.length_nil]
      omega
  · exact (wrong_ok h).elim
theorem any_fine {ts : List Tok} {ns : List Nd} {s : List UInt8} {ts' : List Tok} {ns' : List Nd} (h : anyR ts ns = .ok s ts' ns') : (∀ t ∈ ts', t ∈ ts) ∧ plainN [s] + cnt ts' = cnt ts := by
  unfold anyR at h
  split at h
  · rename_i t r
    split at h
    · rename_i hk
      injection h with h1 h2 h3
      subst h1 h2
      exact ⟨fun _ h => List.mem_cons_of_mem _ h, (cnt_word hk).symm⟩
    · exact (wrong_ok h).elim
  · cases h
theorem pats_fine : ∀ (f : Nat) (acc : List (List UInt8)) (ts : List Tok) (ns : List Nd) (l : List (List UInt8)) (ts' : List Tok) (ns' : List Nd), Good ts → TW ts → patsL f acc ts ns = .ok l ts' ns' → (∀ t ∈ ts', t ∈ ts) ∧ plainN l + cnt ts' = plainN acc + cnt ts := by
  intro f
  induction f with
  | zero => intro acc ts ns l ts' ns' _ _ h; cases h
  | succ f ih =>
    intro acc ts ns l ts' ns' hg hw h
    rw [patsL] at h
    split at h
    · rename_i hb
      have g1 := is_tail hg hb
      have c1 := is_cnt hw (.inr (by decide)) hb
      obtain ⟨s, t1, n1, e1, hh⟩ := bind_eq h; clear h; have h := hh; clear hh
      obtain ⟨q1, q2⟩ := any_fine e1
      obtain ⟨g2, _, _, _⟩ := any_ok g1.1 e1
      have hw1 : TW t1 := hw.tail.sub q1
      obtain ⟨q3, q4⟩ := ih _ _ _ _ _ _ g2 hw1 h
      rw [plainN_app] at q4
      exact ⟨fun u hu => List.mem_of_mem_tail (q1 u (q3 u hu)), by omega⟩
    · injection h with h1 h2 h3
      subst h1 h2
      exact ⟨fun _ h => h, rfl⟩
theorem par_cnt {ts : List Tok} (hw : TW ts) : (∀ t ∈ (if sgnB ts sPar = true then ts.tail else ts), t ∈ ts) ∧ cnt (if sgnB ts sPar = true then ts.tail else ts) = cnt ts := by
  split
  · rename_i h
    exact ⟨fun _ h => List.mem_of_mem_tail h, is_cnt (s := sPar) hw (.inr (by decide)) (by unfold isB; rw [h]; rfl)⟩
  · exact ⟨fun _ h => h, rfl⟩
theorem wt_pats (n : Nd) (p : List (List UInt8)) (k : Int) : wt { n with pats := n.pats ++ [p], kids := n.kids ++ [k] } = wt n + plainN p := by
  unfold wt
  simp only [List.map_append, List.sum_append, List.map_cons, List.map_nil, List.sum_cons, List.sum_nil]
  omega
theorem case_fine {lst : Rdr} (hd : Dec 2 lst) (hi : Fine lst) : ∀ (f : Nat) (n : Nd) (ts : List Tok) (ns : List Nd) (m : Nd) (ts' : List Tok) (ns' : List Nd), Good ts → TW ts → caseL lst f n ts ns = .ok m ts' ns' →
    (∀ t ∈ ts', t ∈ ts) ∧ (∃ s, ns' = ns ++ s) ∧ (DF ns' → wt m + wtN ns' + cnt ts' = wt n + wtN ns + cnt ts) ∧ (m.kind = n.kind ∧ m.name = n.name ∧ m.redirs = n.redirs ∧ (n.kids.length = n.pats.length → m.kids.length = m.pats.length)) ∧ (∀ ns0, Ch true ns0 ns n.kids → Ch true ns0 ns' m.kids) := by
  intro f
  induction f with
  | zero => intro n ts ns m ts' ns' _ _ h; cases h
  | succ f ih =>
    intro n ts ns m ts' ns' hg hw h
    rw [caseL] at h
    split at h
    · injection h with h1 h2 h3
      subst h1 h2 h3
      exact ⟨fun _ h => h, ⟨[], by simp⟩, fun _ => rfl, ⟨rfl, rfl, rfl, id⟩, fun _ h => h⟩
    · have gp := par_good hg
      have pc := par_cnt hw
      have hwp : TW (if sgnB ts sPar = true then ts.tail else ts) := hw.sub pc.1
      obtain ⟨s, t1, n1, e1, hh⟩ := bind_eq h; clear h; have h := hh; clear hh
      obtain ⟨g1, _, hn1, _⟩ := any_ok gp.1 e1
      subst hn1
      obtain ⟨q1, q2⟩ := any_fine e1
      have hw1 : TW t1 := hwp.sub q1
      obtain ⟨p, t2, n2, e2, hh⟩ := bind_eq h; clear h; have h := hh; clear hh
      obtain ⟨g2, _, hn2, _⟩ := pats_ok _ _ _ _ _ _ _ g1 e2
      subst hn2
      obtain ⟨q3, q4⟩ := pats_fine _ _ _ _ _ _ _ g1 hw1 e2
      have hw2 : TW t2 := hw1.sub q3
      obtain ⟨_, t3, n3, e3, hh⟩ := bind_eq h; clear h; have h := hh; clear hh
      obtain ⟨g3, _, _, _, _⟩ := need_ok g2 e3
      have c3 := need_cnt hw2 (.inr (by decide)) e3
      obtain ⟨s3, hn3⟩ := Sg.need hw2 (.inr (by decide)) e3
      subst hn3
      have hw3 : TW t3 := hw2.sub s3.sub
      obtain ⟨x, t4, n4, e4, hh⟩ := bind_eq h; clear h; have h := hh; clear hh
      have body : Good t4 ∧ Sg t3 n3 t4 n4 ∧ (∀ ns0, Ch true ns0 n3 n.kids → Ch true ns0 n4 (n.kids ++ [x])) := by
        have hb := breaks_good g3
        have sb := Sg.breaks (ns := n3) t3
        split at e4
        · have d := hd _ _ _ _ _ hb.1 e4
          obtain ⟨s4, w4⟩ := hi _ _ _ _ _ hb.1 (hw3.sub sb.sub) e4
          exact ⟨d.good, sb.trans s4, fun ns0 hc => hc.kid w4 d⟩
        · injection e4 with h1 h2 h3
          subst h1 h2 h3
          exact ⟨hb.1, sb, fun ns0 hc => hc.skip⟩
      obtain ⟨g4, s4, b4⟩ := body
      have hw4 : TW t4 := hw3.sub s4.sub
      have hsub4 : ∀ u ∈ t4, u ∈ ts := fun u hu => pc.1 u (q1 u (q3 u (s3.sub u (s4.sub u hu))))
      have hwt4 : DF n4 → wtN n4 + cnt t4 + plainN p = wtN n3 + cnt ts := fun hdf => by
        have := s4.wts hdf
        have := pc.2
        omega
      split at h
      · rename_i hs2
        have g5 := is_tail g4 hs2
        have g6 := breaks_good g5.1
        have c5 := is_cnt hw4 (.inr (by decide)) hs2
        have c6 := breaks_cnt t4.tail
        have sb6 := Sg.breaks (ns := n4) t4.tail
        obtain ⟨r1, ⟨sg, r2⟩, r3, ⟨r4, r5, r6, r7⟩, r8⟩ := ih _ _ _ _ _ _ g6.1 (hw4.tail.sub sb6.sub) h
        obtain ⟨sg4, hsg4⟩ := s4.pre
        refine ⟨fun u hu => hsub4 u (List.mem_of_mem_tail (sb6.sub u (r1 u hu))), ⟨sg4 ++ sg, by rw [r2, hsg4]; simp⟩, fun hdf => ?_, ⟨r4, r5, r6, fun hl => r7 (by simp [hl])⟩, fun ns0 hc => r8 ns0 (b4 ns0 hc)⟩
        have h1 := r3 hdf
        have h2 := hwt4 (by intro u hu; exact hdf u (by rw [r2]; exact List.mem_append_left _ hu))
        rw [wt_pats] at h1
        omega
      · injection h with h1 h2 h3
        subst h1 h2 h3
        refine ⟨hsub4, s4.pre, fun hdf => ?_, ⟨rfl, rfl, rfl, fun hl => by simp [hl]⟩, b4⟩
        have h2 := hwt4 hdf
        rw [wt_pats]
        omega
theorem caseF_fine {lst : Rdr} (hd : Dec 2 lst) (hi : Fine lst) {ts : List Tok} {ns : List Nd} {m : Nd} {ts' : List Tok} {ns' : List Nd} (hg : Good ts) (hw : TW ts) (h : caseF lst ts ns = .ok m ts' ns') :
    (∀ t ∈ ts', t ∈ ts) ∧ (∃ s, ns' = ns ++ s) ∧ (DF ns' → wt m + wtN ns' + cnt ts' = wtN ns + cnt ts) ∧ (m.kind = 14 ∧ m.name = [] ∧ m.redirs = [] ∧ m.kids.length = m.pats.length) ∧ Ch true ns ns' m.kids := by
  unfold caseF at h
  obtain ⟨s, t1, n1, e1, hh⟩ := bind_eq h; clear h; have h := hh; clear hh
  obtain ⟨g1, _, hn1, _⟩ := any_ok hg e1
  subst hn1
  obtain ⟨q1, q2⟩ := any_fine e1
  have hw1 : TW t1 := hw.sub q1
  have hb := breaks_good g1
  have sb := Sg.breaks (ns := n1) t1
  have cb := breaks_cnt t1
  obtain ⟨_, t3, n3, e3, hh⟩ := bind_eq h; clear h; have h := hh; clear hh
  obtain ⟨g3, _, _, _, _⟩ := need_ok hb.1 e3
  have c3 := need_cnt (hw1.sub sb.sub) (.inl (by decide)) e3
  obtain ⟨s3, hn3⟩ := Sg.need (hw1.sub sb.sub) (.inl (by decide)) e3
  subst hn3
  have hw3 : TW t3 := (hw1.sub sb.sub).sub s3.sub
  have hb3 := breaks_good g3
  have sb3 := Sg.breaks (ns := n3) t3
  have cb3 := breaks_cnt t3
  obtain ⟨n, t4, n4, e4, hh⟩ := bind_eq h; clear h; have h := hh; clear hh
  obtain ⟨g4, _, _, _⟩ := case_loop hd _ _ _ _ _ _ _ hb3.1 e4
  obtain ⟨r1, r2, r3, ⟨r4, r5, r6, r7⟩, r8⟩ := case_fine hd hi _ _ _ _ _ _ _ hb3.1 (hw3.sub sb3.sub) e4
  have hw4 : TW t4 := (hw3.sub sb3.sub).sub r1
  obtain ⟨_, t5, n5, e5, hh⟩ := bind_eq h; clear h; have h := hh; clear hh
  have c5 := need_cnt hw4 (.inl (by decide)) e5
  obtain ⟨s5, hn5⟩ := Sg.need hw4 (.inl (by decide)) e5
  subst hn5
  injection h with h1 h2 h3
  subst h1 h2 h3
  refine ⟨fun u hu => q1 u (sb.sub u (s3.sub u (sb3.sub u (r1 u (s5.sub u hu))))), r2, fun hdf => ?_, ⟨r4, r5, r6, r7 rfl⟩, r8 _ (Ch.nil true _)⟩
  have h1 := r3 hdf
  have h2 : wt { kind := 14, words := [s] } = plainN [s] := by simp [wt, plainN]
  rw [h2] at h1
  omega

/-! ### what stands in a compound -/
theorem coreS_fine {lst : Rdr} (hd : Dec 2 lst) (hi : Fine lst) {s : List UInt8} (hs : s = sPar ∨ s ∈ cmpW) {ts : List Tok} {ns : List Nd} {x : Int} {ts' : List Tok} {ns' : List Nd} (hg : Good ts) (hw : TW ts) (h : coreS lst s ts ns = .ok x ts' ns') : Sg ts ns ts' ns' ∧ Wb ns ns' ∧ Ends ns' := by
  have one : ∀ (kd : Int) (c : List UInt8), (kd = 8 ∨ kd = 9) → (resB c = true ∨ c ∈ sgs) → ((lst ts ns).bind fun x ts ns => (needR c ts ns).bind fun _ ts ns => layR { kind := kd, kids := [x] } ts ns) = .ok x ts' ns' → Sg ts ns ts' ns' ∧ Wb ns ns' ∧ Ends ns' := by
    intro kd c hkd hc h
    obtain ⟨y, t1, n1, e1, hh⟩ := bind_eq h; clear h; have h := hh; clear hh
    have d1 := hd _ _ _ _ _ hg e1
    obtain ⟨s1, w1⟩ := hi _ _ _ _ _ hg hw e1
    obtain ⟨_, t2, n2, e2, hh⟩ := bind_eq h; clear h; have h := hh; clear hh
    obtain ⟨s2, hn2⟩ := Sg.need (hw.sub s1.sub) hc e2
    subst hn2
    obtain ⟨rfl, rfl, rfl⟩ := lay_ok h
    exact lay_sg (c := false) _ (s1.trans s2) (wt_kids _ _) (.inr (.inl ⟨by rcases hkd with e | e; exact .inr (.inr (.inl e)); exact .inr (.inr (.inr e)), rfl, rfl⟩)) (by rcases hkd with e | e <;> (subst e; rfl)) rfl (by intro h1; have h2 : kd = 1 := h1; omega) ((Ch.nil false ns).kid w1 d1)
  unfold coreS at h
  split at h
  · exact one 8 wClose (.inl rfl) (.inl (by decide)) h
  · rename_i h1
    split at h
    · exact one 9 sRap (.inr rfl) (.inr (by decide)) h
    · rename_i h2
      split at h
      · exact ifs_fine hd hi _ _ _ _ _ _ hg hw h
      · rename_i h3
        split at h
        · obtain ⟨n, t1, n1, e1, hh⟩ := bind_eq h; clear h; have h := hh; clear hh
          obtain ⟨g1, _, hn1⟩ := fors_ok hg e1
          subst hn1
          obtain ⟨f1, f2, f3, f4, f5, f6⟩ := fors_fine hg hw e1
          have hw1 : TW t1 := hw.sub f1
          obtain ⟨y, t2, n2, e2, hh⟩ := bind_eq h; clear h; have h := hh; clear hh
          have d2 := hd _ _ _ _ _ g1 e2
          obtain ⟨s2, w2⟩ := hi _ _ _ _ _ g1 hw1 e2
          obtain ⟨_, t3, n3, e3, hh⟩ := bind_eq h; clear h; have h := hh; clear hh
          obtain ⟨s3, hn3⟩ := Sg.need (hw1.sub s2.sub) (.inl (by decide)) e3
          subst hn3
          obtain ⟨rfl, rfl, rfl⟩ := lay_ok h
          have s23 := s2.trans s3
          have hk14 : (({ n with kids := [y] } : Nd).kind == 14) = false := by show (n.kind == 14) = false; rw [f2]; rfl
          refine lay_all (c := false) { n with kids := [y] } (fun u hu => f1 u (s23.sub u hu)) s23.pre (fun hdf => ?_) (.inr (.inr (.inl ⟨.inl f2, rfl, f3⟩))) hk14 f4 (by show n.kind ≠ 1; omega) ((Ch.nil false _).kid w2 d2)
          have q1 := s23.wts hdf
          have q2 := f6 [y]
          omega
        · rename_i h4
          split at h
          · obtain ⟨n, t1, n1, e1, hh⟩ := bind_eq h; clear h; have h := hh; clear hh
            obtain ⟨r1, r2, r3, ⟨r4, r5, r6, r7⟩, r8⟩ := caseF_fine hd hi hg hw e1
            obtain ⟨rfl, rfl, rfl⟩ := lay_ok h
            exact lay_all (c := true) n r1 r2 r3 (.inr (.inr (.inr (.inr (.inr (.inr (.inr ⟨r4, r7, r5⟩))))))) (by rw [r4]; rfl) r6 (by omega) r8
          · rename_i h5
            have hkd : (if s = wUntil then (12 : Int) else if s = wWhile then 11 else 0) = 12 ∨ (if s = wUntil then (12 : Int) else if s = wWhile then 11 else 0) = 11 := by
              by_cases hu : s = wUntil
              · rw [if_pos hu]; exact .inl rfl
              · rw [if_neg hu]
                by_cases hwh : s = wWhile
                · rw [if_pos hwh]; exact .inr rfl
                · exfalso
                  rcases hs with e | e
                  · exact h2 e
                  · simp only [cmpW, List.mem_cons, List.not_mem_nil, or_false] at e
                    rcases e with e | e | e | e | e | e
                    · exact h1 e
                    · exact h3 e
                    · exact hwh e
                    · exact hu e
                    · exact h4 e
                    · exact h5 e
            obtain ⟨kd, hkd'⟩ : ∃ kd, (if s = wUntil then (12 : Int) else if s = wWhile then 11 else 0) = kd := ⟨_, rfl⟩
            rw [hkd'] at hkd h
            obtain ⟨y, t1, n1, e1, hh⟩ := bind_eq h; clear h; have h := hh; clear hh
            have d1 := hd _ _ _ _ _ hg e1
            obtain ⟨s1, w1⟩ := hi _ _ _ _ _ hg hw e1
            obtain ⟨_, t2, n2, e2, hh⟩ := bind_eq h; clear h; have h := hh; clear hh
            obtain ⟨g2, _, _, _, _⟩ := need_ok d1.good e2
            obtain ⟨s2, hn2⟩ := Sg.need (hw.sub s1.sub) (.inl (by decide)) e2
            subst hn2
            have s12 := s1.trans s2
            obtain ⟨z, t3, n3, e3, hh⟩ := bind_eq h; clear h; have h := hh; clear hh
            have d3 := hd _ _ _ _ _ g2 e3
            obtain ⟨s3, w3⟩ := hi _ _ _ _ _ g2 (hw.sub s12.sub) e3
            have s13 := s12.trans s3
            obtain ⟨_, t4, n4, e4, hh⟩ := bind_eq h; clear h; have h := hh; clear hh
            obtain ⟨s4, hn4⟩ := Sg.need (hw.sub s13.sub) (.inl (by decide)) e4
            subst hn4
            obtain ⟨rfl, rfl, rfl⟩ := lay_ok h
            exact lay_sg (c := false) _ (s13.trans s4) (wt_kids _ _) (.inr (.inr (.inr (.inl ⟨by rcases hkd with e | e; exact .inr (.inr (.inr e)); exact .inr (.inr (.inl e)), rfl, rfl⟩)))) (by rcases hkd with e | e <;> (subst e; rfl)) rfl (by intro h1; have h2 : kd = 1 := h1; omega) (((Ch.nil false ns).kid w1 d1).kid w3 d3)
theorem cmp_cases {t : Tok} (h : cmpB t = true) : (t.t = sPar ∨ t.t ∈ cmpW) ∧ (t.k == 1 && !resB t.t) = false := by
  unfold cmpB at h
  rw [Bool.or_eq_true, Bool.and_eq_true, Bool.and_eq_true] at h
  rcases h with ⟨h1, h2⟩ | ⟨h1, h2⟩
  · refine ⟨.inl (eq_of_beq h2), ?_⟩
    rw [eq_of_beq h1]; rfl
  · have hm : t.t ∈ cmpW := by simpa using h2
    refine ⟨.inr hm, ?_⟩
    have hr : ∀ s ∈ cmpW, resB s = true := by decide
    rw [hr _ hm]; simp
theorem coreF_fine {lst : Drd} (hd : DecD 2 lst) (hi : ∀ d, Fine (lst d)) (d : Nat) : FineC (coreF lst d) := by
  intro ts ns x ts' ns' hg hw hh h
  obtain ⟨t, r, rfl⟩ := hg.ne
  unfold coreF at h
  simp only [] at h
  split at h
  · cases h
  · rename_i hk
    obtain ⟨c1, c2⟩ := cmp_cases (t := t) hh
    obtain ⟨s1, w1, e1⟩ := coreS_fine (hd d) (hi d) c1 (hg.tail hk) hw.tail h
    refine ⟨⟨fun u hu => List.mem_cons_of_mem _ (s1.sub u hu), s1.pre, fun hdf => ?_⟩, w1, e1⟩
    rw [s1.wts hdf, cnt_no c2]
theorem core_fine : ∀ f d, FineC (core f d)
  | 0, _ => fun _ _ _ _ _ _ _ _ h => by cases h
  | f + 1, d => coreF_fine (lst_dec (cmp_dec (core_dec f))) (lst_fine (cmp_dec (core_dec f)) (cmp_fine (core_dec f) (core_fine f))) d
theorem lst_fine_all (f d : Nat) : Fine (lst f d) := lst_fine (cmp_dec (core_dec f)) (cmp_fine (core_dec f) (core_fine f)) d

/-! ### the whole -/
theorem good_end {t : Tok} {r : List Tok} (h : Good (t :: r)) (hk : t.k = 4) : r = [] := by
  obtain ⟨p, e, hp, he, ha⟩ := h
  cases p with
  | nil => simp at hp; exact hp.2
  | cons q p =>
    simp at hp
    exact absurd (hp.1 ▸ hk) (ha q (List.mem_cons_self ..))
theorem cnt_end {t : Tok} (hk : t.k = 4) : cnt [t] = 0 := by
  rw [cnt_no (by rw [hk]; rfl)]
  rfl
theorem Toks.tw {L : Nat} {ts : List Tok} (h : Toks L ts) : TW ts := by
  intro t ht
  rcases h.w t ht with ⟨h1, h2, h3⟩ | hw
  · exact ⟨fun e => by omega, fun e => by omega⟩
  · refine ⟨fun e => ?_, fun e => ?_⟩
    · obtain ⟨c, r, h1, h2⟩ := hw.wd e
      refine ⟨by rw [h1]; simp, fun hm => ?_⟩
      rw [h1] at hm
      have h3 : ∀ s ∈ sgs, ∀ c r, s = c :: r → isIn stopB c = true := by
        have : ∀ s ∈ sgs, (match s with | c :: _ => isIn stopB c | [] => true) = true := by decide
        intro s hs c r he
        have := this s hs
        rw [he] at this
        exact this
      rw [h3 _ hm c r rfl] at h2
      cases h2
    · obtain ⟨c, h1, h2, h3⟩ := hw.io e
      rw [h1]
      exact decide_eq_true ⟨h2, h3⟩
/-- What a whole text's nodes are. -/
structure Whole (ts : List Tok) (l : List Nd) : Prop where
  few : l.length ≤ 300
  wb : ∃ bs, WB l bs ∧ (l = [] ∨ bs.getD (l.length - 1) 0 = 0)
  wts : DF l → wtN l = cnt ts
theorem parse_whole {ts : List Tok} (hg : Good ts) (hw : TW ts) (he : (parseT ts).e = 0) (hb : ∀ t r a e, breaksF ts = t :: r → lst ts.length 0 (t :: r) [] = .bad a e → e ≠ 0) : Whole ts (parseT ts).ns := by
  have none : cnt ts = 0 → Whole ts [] := fun h => ⟨by simp, ⟨[], .nil, .inl rfl⟩, fun _ => h.symm⟩
  have cb := breaks_cnt ts
  have gb := breaks_good hg
  have sb := Sg.breaks (ns := ([] : List Nd)) ts
  obtain ⟨t, r, hbr⟩ := gb.1.ne
  unfold parseT at he ⊢
  rw [hbr] at he cb gb sb ⊢
  simp only [] at he ⊢
  by_cases hk : t.k = 4
  · rw [if_pos hk]
    refine none ?_
    rw [← cb, good_end gb.1 hk, cnt_end hk]
  · rw [if_neg hk] at he ⊢
    cases hl : lst ts.length 0 (t :: r) [] with
    | bad a e =>
      rw [hl] at he
      exact absurd he (hb t r a e hbr hl)
    | ok x t1 n1 =>
      have d := lst_left ts.length 0 _ _ _ _ _ gb.1 hl
      obtain ⟨s1, w1⟩ := lst_fine_all ts.length 0 _ _ _ _ _ gb.1 (hw.sub sb.sub) hl
      obtain ⟨u, q, rfl⟩ := d.good.ne
      rw [hl] at he
      simp only [] at he ⊢
      by_cases hu : u.k = 4
      · have hu' : ¬ u.k ≠ 4 := fun h => h hu
        rw [if_neg hu'] at he ⊢
        by_cases h3 : 300 < n1.length
        · rw [if_pos h3] at he
          cases he
        · rw [if_neg h3]
          have hq := good_end d.good hu
          subst hq
          refine ⟨by show n1.length ≤ 300; omega, ?_, fun hdf => ?_⟩
          · obtain ⟨cs, c1, c2⟩ := w1 [] .nil
            exact ⟨cs, by simpa using c1, .inr (by simpa using c2)⟩
          · have q1 := s1.wts hdf
            rw [cnt_end hu] at q1
            simp only [wtN, List.map_nil, List.sum_nil] at q1
            show (n1.map wt).sum = _
            omega
      · rw [if_pos hu] at he
        cases he

end Go.Proofs.Ytgpfjcogaheopaa
