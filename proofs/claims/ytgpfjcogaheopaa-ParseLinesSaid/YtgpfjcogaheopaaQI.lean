/- ParseLines, said of the plain parser. -/
import Derived.Test.YtgpfjcogaheopaaQG
import Derived.Test.YtgpfjcogaheopaaQH
namespace Go.Proofs.Ytgpfjcogaheopaa
open Lx
set_option maxRecDepth 100000

theorem Sm.awy {tl ts ts' : List Tok} (h : Sm tl ts ts') (ha : Aw tl ts) : ts' = tl := by
  obtain ⟨_, e, he, rfl⟩ := ha
  cases h with
  | base _ => rfl
  | cons _ _ h => cases h
theorem breaks_idem : ∀ ts, breaksF (breaksF ts) = breaksF ts
  | [] => rfl
  | t :: r => by
    rw [breaksF]
    split
    · exact breaks_idem r
    · rename_i h
      rw [breaksF, if_neg h]
theorem Sm.breaks_aw {tl ts ts' : List Tok} (h : Sm tl ts ts') (ha : Aw tl (breaksF ts)) : breaksF ts' = breaksF tl := by
  induction h with
  | base he => rfl
  | @cons t t' r r' hk hx h ih =>
    rw [breaksF] at ha ⊢
    rw [hk, hx]
    split
    · rename_i hl; rw [if_pos hl] at ha; exact ih ha
    · rename_i hl
      rw [if_neg hl] at ha
      obtain ⟨_, e, he, h2⟩ := ha
      injection h2 with _ h2
      subst h2
      cases h
theorem lf_breaks {tl : List Tok} (h : sgnB tl sLf = true) : breaksF tl.tail = breaksF tl := by
  cases tl with
  | nil => rfl
  | cons t r =>
    have : (t.k == 2 && t.t == sLf) = true := h
    rw [breaksF.eq_def (t :: r)]
    simp only []
    rw [if_pos this]
    rfl
/-- Where the first text's list ends, the second one's goes on. -/
theorem list_go {tl : List Tok} {c : Nat} {item item' : Rdr} (ht : Tl tl) (hlf : sgnB tl sLf = true) (hi : RdSm tl c item item') (hd : Dec 3 item) (hbg : beginsB (breaksF tl) = true) (ck F : Nat) : ∀ (f f' : Nat) (kids kids' : List Int) (back back' : Bool) (ts ts' : List Tok) (ns ns' : List Nd) (k : List Int × Bool) (t1 : List Tok) (n1 : List Nd),
    Good ts → ts.length + F ≤ f' → kids'.length = kids.length + ck → Sm tl ts ts' → ns'.length = ns.length + c → listL item f kids back ts ns = .ok k t1 n1 → Aw tl (breaksF t1) →
    ∃ g k' b' m, F ≤ g ∧ k'.length = k.1.length + ck ∧ m.length = n1.length + c ∧ listL item' f' kids' back' ts' ns' = listL item' g k' b' (breaksF tl) m := by
  intro f
  induction f with
  | zero => intro f' kids kids' back back' ts ts' ns ns' k t1 n1 _ _ _ _ _ h; cases h
  | succ f ih =>
    intro f' kids kids' back back' ts ts' ns ns' k t1 n1 hg hf hk hs hn h hA
    obtain ⟨g, rfl⟩ : ∃ g, f' = g + 1 := ⟨f' - 1, by have := hg.pos; omega⟩
    rw [listL] at h ⊢
    obtain ⟨x, u1, m1, he, hh⟩ := bind_eq h
    clear h
    have h := hh
    clear hh
    have hl := hd _ _ _ _ _ hg he
    have hlen := hl.len
    obtain ⟨x', u1', m1', he', hs1, hn1, _⟩ := hi _ _ _ _ hs hn _ _ _ he
    rw [he', PR.bind_ok]
    have ea := hs1.is ht (s := sAmp) (by decide)
    have hst := hs1.take ht (s := sAmp) (by decide)
    have htg := take_good (s := sAmp) hl.good
    simp only [ea] at h ⊢
    generalize hamp : isB u1 sAmp = amp at h
    generalize htt : takeT u1 sAmp = tt at hst h htg
    generalize htt' : takeT u1' sAmp = tt' at hst
    have hn2 : (if amp = true then m1' ++ [({ kind := 7, kids := [x'] } : Nd)] else m1').length = (if amp = true then m1 ++ [({ kind := 7, kids := [x] } : Nd)] else m1).length + c := by
      cases amp <;> simp <;> omega
    generalize (if amp = true then m1' ++ [({ kind := 7, kids := [x'] } : Nd)] else m1') = m' at hn2 ⊢
    generalize (if amp = true then m1 ++ [({ kind := 7, kids := [x] } : Nd)] else m1) = m at hn2 h
    generalize (if amp = true then (m1.length : Int) else x) = y at h
    generalize (if amp = true then (m1'.length : Int) else x') = y'
    have hk2 : (kids' ++ [y']).length = (kids ++ [y]).length + ck := by simp; omega
    by_cases hAt : Aw tl tt
    · have e1 := hst.awy hAt
      subst e1
      rw [hAt.is, hAt.is] at h
      have hsep : (amp || isB tt' sSemi || isB tt' sLf) = true := by rw [tl_lf ht, hlf]; simp
      have hbr : breaksF (if amp = true then tt' else tt'.tail) = breaksF tt' := by cases amp with | true => rfl | false => exact lf_breaks hlf
      rw [hsep, if_pos rfl, hbr, if_pos hbg]
      have hh : PR.ok (kids ++ [y], back || amp) tt m = PR.ok k t1 n1 := by
        cases amp with
        | true =>
          simp only [Bool.true_or, if_true] at h
          rw [hAt.breaks, hAt.begins] at h
          exact h
        | false => exact h
      injection hh with h1 h2 h3
      subst h1 h2 h3
      exact ⟨g, _, _, _, by omega, hk2, hn2, rfl⟩
    · have ebs := hst.is ht (s := sSemi) (by decide)
      have el := (hst.is_lf ht).resolve_right hAt
      rw [ebs, el]
      by_cases hsep : (amp || isB tt sSemi || isB tt sLf) = true
      · rw [if_pos hsep] at h ⊢
        have hsu : Sm tl (if amp = true then tt else tt.tail) (if amp = true then tt' else tt'.tail) ∧ Good (if amp = true then tt else tt.tail) ∧ (if amp = true then tt else tt.tail).length ≤ tt.length := by
          cases amp with
          | true => exact ⟨hst, htg.1, Nat.le_refl _⟩
          | false =>
            simp only [Bool.false_or, Bool.or_eq_true] at hsep
            rcases hsep with h | h <;> exact ⟨hst.tail_is h, (is_tail htg.1 h).1, by simp⟩
        generalize (if amp = true then tt else tt.tail) = tu at hsu h
        generalize (if amp = true then tt' else tt'.tail) = tu' at hsu ⊢
        obtain ⟨hsu, hgu, hlu⟩ := hsu
        have hgb := breaks_good hgu
        by_cases hAu : Aw tl (breaksF tu)
        · rw [hAu.begins] at h
          simp only [Bool.false_eq_true, if_false] at h
          injection h with h1 h2 h3
          subst h1 h2 h3
          rw [hsu.breaks_aw hAu, if_pos hbg]
          exact ⟨g, _, _, _, by omega, hk2, hn2, rfl⟩
        · have hb := (hsu.breaks ht).resolve_right hAu
          rw [hb.begins ht]
          by_cases hbb : beginsB (breaksF tu) = true
          · rw [if_pos hbb] at h ⊢
            exact ih g _ _ _ _ _ _ _ _ _ _ _ hgb.1 (by omega) hk2 hb hn2 h hA
          · rw [if_neg hbb] at h
            injection h with h1 h2 h3
            subst h2
            rw [breaks_idem] at hA
            exact absurd hA hAu
      · exfalso
        rw [if_neg hsep] at h
        injection h with h1 h2 h3
        subst h2
        have hnl : isB tt sLf = false := by
          cases hx : isB tt sLf with
          | false => rfl
          | true => rw [hx] at hsep; simp at hsep
        have hbt : breaksF tt = tt := by
          obtain ⟨t, r, rfl⟩ := htg.1.ne
          rw [breaksF]
          refine if_neg fun hx => ?_
          have : sgnB (t :: r) sLf = true := hx
          unfold isB at hnl
          rw [this] at hnl
          cases hnl
        rw [hbt] at hA
        exact hAt hA
/-- Something that is read begins so. -/
theorem sim_begins {ts : List Tok} {ns : List Nd} {x : Int} {us : List Tok} {ms : List Nd} (hg : Good ts) (h : simF ts ns = .ok x us ms) : beginsB ts = true := by
  obtain ⟨t, r, rfl⟩ := hg.ne
  obtain ⟨n, t1, n1, h1, h2⟩ := bind_eq h
  have hu : simL ((t :: r).length + 1) { kind := 1 } (t :: r) ns = .ok n t1 n1 := h1
  rw [simL] at hu
  obtain ⟨l, t2, n2, h3, h4⟩ := bind_eq hu
  have h3 : redirL ((t :: r).length + 1) [] (t :: r) ns = .ok l t2 n2 := h3
  rw [redirL] at h3
  unfold beginsB
  simp only [Bool.or_eq_true, Bool.and_eq_true, beq_iff_eq]
  by_cases hk3 : t.k = 3
  · exact .inl (.inr hk3)
  by_cases hr : rdrB t = true
  · exact .inl (.inl (.inr hr))
  rw [if_neg (by simp [hk3]), if_neg hr] at h3
  injection h3 with h5 h6 h7
  subst h5 h6 h7
  simp only [] at h4
  have z : ∀ {t1 : List Tok}, PR.ok ({ kind := 1 } : Nd) (t :: r) ns = .ok n t1 n1 → False := by
    intro t1' he
    injection he with e1 e2 e3
    subst e1
    exact wrong_ok h2
  by_cases hk : t.k = 1
  · rw [if_neg (by omega), if_neg (by simp)] at h4
    right
    refine ⟨hk, ?_⟩
    by_cases hset : setB t.t = true
    · right
      cases hres : resB t.t with
      | false => rfl
      | true =>
        have hm : t.t ∈ resW := by unfold resB at hres; simpa using hres
        have res_set : ∀ s ∈ resW, setB s = false := by decide
        rw [res_set _ hm] at hset
        cases hset
    · rw [if_neg hset] at h4
      by_cases hq : (t.t != wIn && resB t.t) = true
      · rw [if_pos hq] at h4
        exact (z h4).elim
      · by_cases hin : t.t = wIn
        · exact .inl (.inr hin)
        · right
          have : (t.t != wIn) = true := by simpa using hin
          rw [this] at hq
          simpa using hq
  · rw [if_pos hk] at h4
    exact (z h4).elim
theorem cmd_begins {cmp : Drd} {d : Nat} {ts : List Tok} {ns : List Nd} {x : Int} {us : List Tok} {ms : List Nd} (hg : Good ts) (h : cmdF cmp d ts ns = .ok x us ms) : beginsB ts = true := by
  unfold cmdF at h
  split at h
  · rename_i hc
    obtain ⟨t, r, rfl⟩ := hg.ne
    have : cmpB t = true := hc
    unfold beginsB
    simp [this]
  · split at h
    · rename_i hf
      unfold funB at hf
      split at hf
      · rename_i t u r
        simp only [Bool.and_eq_true] at hf
        have h1 := hf.1.1.1
        unfold namedB at h1
        rw [Bool.and_eq_true] at h1
        unfold beginsB
        simp only [h1.1, hf.1.1.2, Bool.or_true, Bool.and_true]
      · cases hf
    · exact sim_begins hg h
theorem item_begins {cmp : Drd} {d : Nat} {ts : List Tok} {ns : List Nd} {x : Int} {us : List Tok} {ms : List Nd} (hg : Good ts) (hsg : ∀ t ∈ ts, t.k = 2 → t.t ∈ sgs) (h : itm cmp d ts ns = .ok x us ms) : beginsB ts = true := by
  obtain ⟨x1, t1, n1, h1, _⟩ := bind_eq h
  obtain ⟨x2, t2, n2, h2, _⟩ := bind_eq h1
  unfold takeT at h2
  split at h2
  · rename_i hb
    obtain ⟨t, r, rfl⟩ := hg.ne
    have hk := is_k hb
    unfold isB at hb
    rw [Bool.or_eq_true] at hb
    rcases hb with hb | hb
    · have hs := sgn_k hb
      have h1 := hsg t (List.mem_cons_self ..) hs.1
      rw [hs.2] at h1
      exact absurd h1 (by decide)
    · have hs := wrd_k hb
      unfold beginsB
      simp [hs.1, hs.2]
  · exact cmd_begins hg h2

theorem good_end' {t : Tok} {r : List Tok} (h : Good (t :: r)) (hk : t.k = 4) : r = [] := by
  obtain ⟨p, e, hp, he, ha⟩ := h
  cases p with
  | nil => simp at hp; exact hp.2
  | cons q p =>
    simp at hp
    exact absurd (hp.1 ▸ hk) (ha q (List.mem_cons_self ..))
theorem breaks_mem : ∀ ts, ∀ t ∈ breaksF ts, t ∈ ts
  | [], _, h => h
  | t :: r, x, h => by
    rw [breaksF] at h
    split at h
    · exact List.mem_cons_of_mem _ (breaks_mem r x h)
    · exact h
theorem breaks_len : ∀ ts, (breaksF ts).length ≤ ts.length
  | [] => Nat.le_refl _
  | t :: r => by
    rw [breaksF]
    split
    · have := breaks_len r
      rw [List.length_cons]; omega
    · exact Nat.le_refl _
/-- What a text that has nodes was read as. -/
theorem parse_inv {ts : List Tok} (hg : Good ts) (hne : (parseT ts).ns ≠ []) : ∃ t r k t1 n1, breaksF ts = t :: r ∧ t.k ≠ 4 ∧ listL (itm (cmpF (core ts.length)) 0) ((t :: r).length + 1) [] false (t :: r) [] = .ok k t1 n1 ∧ (∃ e, e.k = 4 ∧ breaksF t1 = [e]) ∧ n1.length ≤ (parseT ts).ns.length ∧ (parseT ts).ns.length ≤ n1.length + 1 := by
  have gb := breaks_good hg
  obtain ⟨t, r, hbr⟩ := gb.1.ne
  unfold parseT at hne ⊢
  have hid : breaksF (t :: r) = t :: r := by rw [← hbr, breaks_idem]
  rw [hbr] at hne gb ⊢
  simp only [] at hne ⊢
  by_cases hk : t.k = 4
  · rw [if_pos hk] at hne; exact absurd rfl hne
  · rw [if_neg hk] at hne ⊢
    cases hl : lst ts.length 0 (t :: r) [] with
    | bad a e => rw [hl] at hne; exact absurd rfl hne
    | ok x t2 n2 =>
      have d := lst_left ts.length 0 _ _ _ _ _ gb.1 hl
      rw [hl] at hne
      simp only [] at hne ⊢
      have hl2 : listF (itm (cmpF (core ts.length)) 0) (t :: r) [] = .ok x t2 n2 := hl
      unfold listF at hl2
      rw [hid] at hl2
      obtain ⟨k, t1, n1, h1, h2⟩ := bind_eq hl2
      have hd : Dec 3 (itm (cmpF (core ts.length)) 0) := item_dec (pipe_dec (cmd_dec (cmp_dec (core_dec ts.length)) 0))
      have ll := list_loop hd _ _ _ _ _ _ _ _ gb.1 h1
      obtain ⟨u, q, hu⟩ := d.good.ne
      subst hu
      simp only [] at hne ⊢
      by_cases hu4 : u.k = 4
      · have hq := good_end' d.good hu4
        subst hq
        rw [if_neg (by omega)] at hne ⊢
        split at hne
        · exact absurd rfl hne
        · rename_i h300
          rw [if_neg h300]
          refine ⟨t, r, k, t1, n1, rfl, hk, h1, ⟨u, hu4, ?_⟩, ?_⟩
          · split at h2
            · split at h2
              · exact (lay_ok h2).2.1.symm
              · injection h2 with _ h3 _
            · exact (lay_ok h2).2.1.symm
          · have : n2 = n1 ∨ ∃ n, n2 = n1 ++ [n] := by
              split at h2
              · split at h2
                · exact .inr ⟨_, (lay_ok h2).2.2⟩
                · injection h2 with _ _ h3; exact .inl h3.symm
              · exact .inr ⟨_, (lay_ok h2).2.2⟩
            rcases this with rfl | ⟨n, rfl⟩
            · exact ⟨Nat.le_refl _, Nat.le_succ _⟩
            · simp
      · rw [if_pos hu4] at hne; exact absurd rfl hne
theorem sm_app (tl : List Tok) {e : Tok} (he : e.k = 4) : ∀ ts : List Tok, Sm tl (ts ++ [e]) (ts ++ tl)
  | [] => .base he
  | _ :: r => .cons rfl rfl (sm_app tl he r)
theorem sm_al {e e' : Tok} (he : e.k = 4) : ∀ {us us' : List Tok}, Al us us' → Sm [e'] (us ++ [e]) (us' ++ [e'])
  | [], [], _ => .base he
  | [], _ :: _, h => by cases h
  | _ :: _, [], h => by cases h
  | t :: r, t' :: r', h => by
    unfold Al at h
    simp only [List.map_cons, List.cons.injEq, Prod.mk.injEq] at h
    exact .cons h.1.1.symm h.1.2.symm (sm_al he h.2)
theorem Sm.len {tl ts ts' : List Tok} (h : Sm tl ts ts') : ts'.length + 1 = ts.length + tl.length := by
  induction h with
  | base he => simp; omega
  | cons _ _ _ ih => simp only [List.length_cons]; omega
theorem parse_lines {ts us us' : List Tok} {ea eb e lf : Tok} (hlf : lf.k = 2 ∧ lf.t = [10]) (hea : ea.k = 4) (heb : eb.k = 4) (he : e.k = 4) (hal : Al us us') (hga : Good (ts ++ [ea])) (hgb : Good (us ++ [eb])) (hsg : ∀ t ∈ us ++ [eb], t.k = 2 → t.t ∈ sgs)
    (ha : (parseT (ts ++ [ea])).ns ≠ []) (hb : (parseT (us ++ [eb])).ns ≠ []) : (parseT (ts ++ lf :: (us' ++ [e]))).e = 12 ∨ (parseT (ts ++ lf :: (us' ++ [e]))).e = 0 ∧ ∃ s n, (parseT (ts ++ lf :: (us' ++ [e]))).ns = s ++ [n] ∧ n.kind = 6 ∧ (parseT (ts ++ [ea])).ns.length ≤ s.length + 1 ∧ s.length + 1 ≤ (parseT (ts ++ [ea])).ns.length + (parseT (us ++ [eb])).ns.length + 1 := by
  obtain ⟨tl, htl⟩ : ∃ tl, lf :: (us' ++ [e]) = tl := ⟨_, rfl⟩
  rw [htl]
  have ht : Tl tl := ⟨lf, us' ++ [e], htl.symm, .inr hlf⟩
  have ht2 : Tl [e] := ⟨e, [], rfl, .inl he⟩
  have hlf2 : sgnB tl sLf = true := by
    rw [← htl]
    show (lf.k == 2 && lf.t == [10]) = true
    rw [hlf.1, hlf.2]
    rfl
  have hnl : sgnB [e] sLf = false := by simp [sgnB, he]
  have noA : ∀ {q}, ¬ Aw [e] q := fun h => by rw [h.1] at hnl; cases hnl
  obtain ⟨tA, rA, kA, t1A, n1A, hbA, hkA, hLA, ⟨eA, heA, hendA⟩, hA1, hA2⟩ := parse_inv hga ha
  obtain ⟨tB, rB, kB, t1B, n1B, hbB, hkB, hLB, ⟨eB, heB, hendB⟩, hB1, hB2⟩ := parse_inv hgb hb
  generalize (parseT (ts ++ [ea])).ns.length = LA at hA1 hA2 ⊢
  generalize (parseT (us ++ [eb])).ns.length = LB at hB1 hB2 ⊢
  have gA : Good (tA :: rA) := by rw [← hbA]; exact (breaks_good hga).1
  have gB : Good (tB :: rB) := by rw [← hbB]; exact (breaks_good hgb).1
  have sA : Sm tl (tA :: rA) (breaksF (ts ++ tl)) := by
    have h := (sm_app tl hea ts).breaks ht
    rw [hbA] at h
    refine h.resolve_right fun hA => ?_
    obtain ⟨_, x, hx, hxe⟩ := hA
    injection hxe with hxe _
    exact hkA (hxe ▸ hx)
  have hbt : breaksF tl = breaksF (us' ++ [e]) := by rw [← lf_breaks hlf2, ← htl]; rfl
  have sB : Sm [e] (tB :: rB) (breaksF tl) := by
    have h := (sm_al (e' := e) heb hal).breaks ht2
    rw [hbB] at h
    rw [hbt]
    exact h.resolve_right noA
  have hsgB : ∀ t ∈ tB :: rB, t.k = 2 → t.t ∈ sgs := by
    rw [← hbB]
    exact fun t h => hsg t (breaks_mem _ t h)
  have hbg : beginsB (breaksF tl) = true := by
    rw [sB.begins ht2]
    rw [listL] at hLB
    obtain ⟨x, t1, n1, h1, _⟩ := bind_eq hLB
    exact item_begins gB hsgB h1
  have lenT : (ts ++ tl).length = ts.length + 1 + us.length + 1 := by
    have := congrArg List.length hal
    rw [List.length_map, List.length_map] at this
    rw [List.length_append, ← htl]
    simp
    omega
  have lA := sA.len
  have lB := sB.len
  have hbl := (breaks_len (us' ++ [e]))
  rw [← hbt] at hbl
  have ltl : tl.length = (us' ++ [e]).length + 1 := by rw [← htl]; rfl
  rw [List.length_singleton] at lB
  have hdA : ∀ f, Dec 3 (itm (cmpF (core f)) 0) := fun f => item_dec (pipe_dec (cmd_dec (cmp_dec (core_dec f)) 0))
  have llA := list_loop (hdA _) _ _ _ _ _ _ _ _ gA hLA
  have llB := list_loop (hdA _) _ _ _ _ _ _ _ _ gB hLB
  have hcA := llA.2.2.2.2.2.1
  have hcB := llB.2.2.2.2.2.1
  simp only [List.length_nil] at hcA hcB
  obtain ⟨g, k', b', m, hg, hk', hm, hgo⟩ := list_go (c := 0) ht hlf2 (itm_core ht (f := (ts ++ [ea]).length) (f' := (ts ++ tl).length) (by rw [lenT, List.length_append, List.length_singleton]; omega) 0) (hdA _) hbg 0 ((tB :: rB).length + 1) _ ((breaksF (ts ++ tl)).length + 1) [] [] false false _ _ [] [] _ _ _ gA (by omega) rfl sA rfl hLA ⟨hlf2, eA, heA, hendA⟩
  obtain hbad | ⟨⟨k2, b2⟩, t2, n2, hL2, s2, hn2, hk2, _⟩ := list_loop_s (c := m.length) ht2 (itm_core ht2 (f := (us ++ [eb]).length) (f' := (ts ++ tl).length) (by rw [lenT, List.length_append, List.length_singleton]; omega) 0) k'.length _ g [] k' false b' _ _ [] m hg (by simp) sB (by simp) _ _ _ hLB
  · exact absurd hbad noA
  simp only [] at hk2
  have hend : breaksF t2 = [e] := by
    have h := (s2.breaks ht2).resolve_right noA
    rw [hendB] at h
    generalize breaksF t2 = q at h ⊢
    cases h with
    | base _ => rfl
    | cons _ _ h => cases h
  obtain ⟨t', r', hbT⟩ : ∃ t' r', breaksF (ts ++ tl) = t' :: r' := by
    cases hx : breaksF (ts ++ tl) with
    | nil => rw [hx] at lA; simp at lA; omega
    | cons t' r' => exact ⟨t', r', rfl⟩
  have hk4 : t'.k ≠ 4 := by
    rw [hbT] at sA
    generalize hx : tA :: rA = x at sA
    generalize hy : t' :: r' = y at sA
    cases sA with
    | base h => injection hx with hx _; rw [hx] at hkA; exact absurd h hkA
    | cons hk _ _ =>
      injection hx with hx _
      injection hy with hy _
      rw [hy, hk, ← hx]
      exact hkA
  have hlst : lst (ts ++ tl).length 0 (t' :: r') [] = .ok (n2.length : Int) [e] (n2 ++ [{ kind := 6, kids := k2 }]) := by
    show listF (itm (cmpF (core (ts ++ tl).length)) 0) (t' :: r') [] = _
    unfold listF
    have hid : breaksF (t' :: r') = t' :: r' := by rw [← hbT, breaks_idem]
    rw [hid]
    rw [hbT] at hgo
    rw [hgo, hL2, PR.bind_ok]
    match k2, hk2 with
    | [], h => simp at h; omega
    | [x], h => simp at h; omega
    | x :: y :: l, _ =>
      show layR { kind := 6, kids := x :: y :: l } (breaksF t2) n2 = _
      rw [hend]
      rfl
  unfold parseT
  rw [hbT]
  simp only []
  rw [if_neg hk4, hlst]
  simp only []
  rw [if_neg (by omega)]
  by_cases h300 : 300 < (n2 ++ [({ kind := 6, kids := k2 } : Nd)]).length
  · rw [if_pos h300]; exact .inl rfl
  · rw [if_neg h300]
    refine .inr ⟨rfl, n2, _, rfl, rfl, ?_⟩
    omega
theorem parse_few (s : List UInt8) : (parseF s).ns.length ≤ 300 := by
  unfold parseF
  split
  · exact Nat.zero_le _
  · unfold parseT
    split
    · exact Nat.zero_le _
    · split
      · exact Nat.zero_le _
      · split
        · exact Nat.zero_le _
        · split
          · exact Nat.zero_le _
          · split
            · exact Nat.zero_le _
            · split
              · exact Nat.zero_le _
              · simp only []; omega
theorem lines_say {a b : List UInt8} (hl : a.length + b.length ≤ 2000) (hb : a.getLastD 0 ≠ 92) (ha : (parseF a).ns ≠ []) (hbn : (parseF b).ns ≠ []) :
    (parseF (a ++ 10 :: b)).e = 12 ∨ (parseF (a ++ 10 :: b)).e = 0 ∧ ∃ s n, (parseF (a ++ 10 :: b)).ns = s ++ [n] ∧ n.kind = 6 ∧ (parseF a).ns.length ≤ s.length + 1 ∧ s.length + 1 ≤ (parseF a).ns.length + (parseF b).ns.length + 1 := by
  have hnb : Nb a := by
    unfold Nb
    intro h
    apply hb
    rw [List.getLastD_eq_getLast?, h]
    rfl
  unfold parseF at ha hbn ⊢
  cases h1 : allF a with
  | err x e => rw [h1] at ha; exact absurd rfl ha
  | ok ts =>
    cases h2 : allF b with
    | err x e => rw [h2] at hbn; exact absurd rfl hbn
    | ok us =>
      rw [h1] at ha
      rw [h2] at hbn
      try dsimp only at ha hbn ⊢
      have k1 := (all_toks h1).2
      have k2 := (all_toks h2).2
      rcases all_app hnb hl h1 h2 with ⟨x, hx⟩ | ⟨t, u, u', n, rfl, rfl, hal, hx⟩
      · rw [hx]; exact .inl rfl
      · rw [hx]
        simp only []
        refine parse_lines ⟨rfl, rfl⟩ rfl rfl rfl hal k1.good k2.good (fun q hq h2 => ?_) ha hbn
        rcases k2.w q hq with ⟨h3, _⟩ | h3
        · omega
        · exact h3.sg h2

end Go.Proofs.Ytgpfjcogaheopaa
