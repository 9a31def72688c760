/- Several texts in one. -/
import Derived.Test.YtgpfjcogaheopaaQA
set_option linter.all false
section
/- The plain parser's nodes: each stands right behind its kids; all words of the tokens stand in them. -/
namespace Go.Proofs.Ytgpfjcogaheopaa
open Lx
set_option maxRecDepth 100000

/-! ### where nodes begin -/
theorem getD_l (a b : List Nat) (i : Nat) (h : i < a.length) : (a ++ b).getD i 0 = a.getD i 0 := by
  rw [List.getD_eq_getElem?_getD, List.getD_eq_getElem?_getD, List.getElem?_append_left h]
theorem getD_r (a : List Nat) (b : Nat) : (a ++ [b]).getD a.length 0 = b := by
  rw [List.getD_eq_getElem?_getD, List.getElem?_append_right (Nat.le_refl _), Nat.sub_self]
  rfl
def goK (bs : List Nat) (c : Bool) : List Int → Nat → Option Nat
  | [], f => some f
  | k :: r, f => if k = -1 ∧ c = true then goK bs c r f else if f = 0 ∨ k ≠ (f : Int) - 1 then none else goK bs c r (bs.getD (f - 1) 0)
def NdOk (n : Nd) : Prop :=
  (n.kind = 1 ∧ n.kids = [] ∧ 0 < n.sets.length + n.words.length + n.redirs.length ∧ n.name = []) ∨
  ((n.kind = 2 ∨ n.kind = 7 ∨ n.kind = 8 ∨ n.kind = 9) ∧ n.kids.length = 1 ∧ n.name = []) ∨
  ((n.kind = 13 ∨ n.kind = 15) ∧ n.kids.length = 1 ∧ n.name ≠ []) ∨
  ((n.kind = 4 ∨ n.kind = 5 ∨ n.kind = 11 ∨ n.kind = 12) ∧ n.kids.length = 2 ∧ n.name = []) ∨
  (n.kind = 3 ∧ 2 ≤ n.kids.length ∧ n.name = []) ∨ (n.kind = 6 ∧ 1 ≤ n.kids.length ∧ n.name = []) ∨
  (n.kind = 10 ∧ 2 ≤ n.kids.length ∧ n.kids.length ≤ 3 ∧ n.name = []) ∨ (n.kind = 14 ∧ n.kids.length = n.pats.length ∧ n.name = [])
inductive WB : List Nd → List Nat → Prop
  | nil : WB [] []
  | snoc {ns : List Nd} {bs : List Nat} {n : Nd} {b : Nat} : WB ns bs → NdOk n → goK bs (n.kind == 14) n.kids.reverse bs.length = some b → WB (ns ++ [n]) (bs ++ [b])
theorem WB.len {ns : List Nd} {bs : List Nat} (h : WB ns bs) : bs.length = ns.length := by
  induction h with
  | nil => rfl
  | snoc _ _ _ ih => simp [ih]
theorem goK_le {bs : List Nat} {c : Bool} (hb : ∀ i, i < bs.length → bs.getD i 0 ≤ i) : ∀ (ks : List Int) (f b : Nat), f ≤ bs.length → goK bs c ks f = some b → b ≤ f
  | [], f, b, _, h => by
    injection h with h
    omega
  | k :: r, f, b, hf, h => by
    rw [goK] at h
    split at h
    · exact goK_le hb r f b hf h
    · split at h
      · cases h
      · rename_i h1 h2
        have h3 := hb (f - 1) (by omega)
        have := goK_le hb r _ b (by omega) h
        omega
theorem WB.le {ns : List Nd} {bs : List Nat} (h : WB ns bs) : ∀ i, i < bs.length → bs.getD i 0 ≤ i := by
  induction h with
  | nil => intro i hi; simp at hi
  | @snoc ns bs n b h hk hg ih =>
    intro i hi
    rw [List.length_append, List.length_singleton] at hi
    by_cases hin : i < bs.length
    · rw [getD_l _ _ _ hin]; exact ih i hin
    · obtain rfl : i = bs.length := by omega
      rw [getD_r]
      exact goK_le ih _ _ _ (Nat.le_refl _) hg
theorem goK_app {bs cs : List Nat} {c : Bool} (hb : ∀ i, i < bs.length → bs.getD i 0 ≤ i) : ∀ (ks : List Int) (f : Nat), f ≤ bs.length → goK (bs ++ cs) c ks f = goK bs c ks f
  | [], f, _ => rfl
  | k :: r, f, hf => by
    rw [goK, goK]
    by_cases h1 : k = -1 ∧ c = true
    · rw [if_pos h1, if_pos h1]; exact goK_app hb r f hf
    · rw [if_neg h1, if_neg h1]
      by_cases h2 : f = 0 ∨ k ≠ (f : Int) - 1
      · rw [if_pos h2, if_pos h2]
      · rw [if_neg h2, if_neg h2, getD_l _ _ _ (by omega)]
        exact goK_app hb r _ (by have := hb (f - 1) (by omega); omega)
/-- Kids that stand right behind one another, from b0 on. -/
def Chn (c : Bool) (bs : List Nat) (kids : List Int) (n b0 : Nat) : Prop := goK bs c kids.reverse n = some b0
/-- What a reader adds is one tree. -/
def Wb (ns ns' : List Nd) : Prop := ∀ bs, WB ns bs → ∃ cs, WB ns' (bs ++ cs) ∧ (bs ++ cs).getD (ns'.length - 1) 0 = ns.length
theorem Chn.kid {c : Bool} {bs cs : List Nat} {kids : List Int} {ns ns' : List Nd} {b0 : Nat} (hw : WB ns bs) (hw' : WB ns' (bs ++ cs)) (hl : (bs ++ cs).getD (ns'.length - 1) 0 = ns.length) (hn : 0 < ns'.length) (h : Chn c bs kids ns.length b0) : Chn c (bs ++ cs) (kids ++ [(ns'.length : Int) - 1]) ns'.length b0 := by
  unfold Chn at h ⊢
  rw [List.reverse_append, List.reverse_singleton, List.singleton_append, goK, if_neg (by omega), if_neg (by omega), hl, goK_app hw.le _ _ (by rw [hw.len]; exact Nat.le_refl _)]
  exact h
theorem Chn.skip {bs : List Nat} {kids : List Int} {n b0 : Nat} (h : Chn true bs kids n b0) : Chn true bs (kids ++ [-1]) n b0 := by
  unfold Chn at h ⊢
  rw [List.reverse_append, List.reverse_singleton, List.singleton_append, goK, if_pos ⟨rfl, rfl⟩]
  exact h
theorem Chn.nil (c : Bool) (bs : List Nat) (n : Nat) : Chn c bs [] n n := rfl
theorem WB.lay {ns : List Nd} {bs : List Nat} {n : Nd} {b0 : Nat} {c : Bool} (h : WB ns bs) (hk : NdOk n) (hc : (n.kind == 14) = c) (hch : Chn c bs n.kids ns.length b0) : WB (ns ++ [n]) (bs ++ [b0]) := by
  refine .snoc h hk ?_
  rw [hc, h.len]
  exact hch
theorem lay_last {ns : List Nd} {bs : List Nat} {n : Nd} {b0 : Nat} (h : WB ns bs) : (bs ++ [b0]).getD ((ns ++ [n]).length - 1) 0 = b0 := by
  rw [List.length_append, List.length_singleton, Nat.add_sub_cancel, ← h.len, getD_r]
/-- A node laid over a chain of kids. -/
theorem lay_wb {c : Bool} {ns ns' : List Nd} {n : Nd} (hk : NdOk n) (hc : (n.kind == 14) = c) (h : ∀ bs, WB ns bs → ∃ cs, WB ns' (bs ++ cs) ∧ Chn c (bs ++ cs) n.kids ns'.length ns.length) : Wb ns (ns' ++ [n]) := by
  intro bs hb
  obtain ⟨cs, h1, h2⟩ := h bs hb
  refine ⟨cs ++ [ns.length], ?_, ?_⟩
  · rw [← List.append_assoc]; exact h1.lay hk hc h2
  · rw [← List.append_assoc]; exact lay_last h1

/-! ### the words -/
def plainN (l : List (List UInt8)) : Nat := (l.filter (fun s => !resB s)).length
theorem plainN_app (a b : List (List UInt8)) : plainN (a ++ b) = plainN a + plainN b := by simp [plainN]
def wt (n : Nd) : Nat := n.sets.length + plainN (if n.name = [] then [] else [n.name]) + plainN n.words + (n.pats.map plainN).sum + plainN (n.redirs.map Rd.wd)
def wtN (ns : List Nd) : Nat := (ns.map wt).sum
theorem wtN_app (a b : List Nd) : wtN (a ++ b) = wtN a + wtN b := by simp [wtN]
theorem wtN_one (n : Nd) : wtN [n] = wt n := by simp [wtN]
def cnt (ts : List Tok) : Nat := (ts.filter (fun t => t.k == 1 && !resB t.t)).length
def digW (s : List UInt8) : Bool := match s with | [c] => decide (48 ≤ c.toNat ∧ c.toNat ≤ 57) | _ => false
def df (n : Nd) : Prop := ∀ r ∈ n.redirs, digW r.wd = false
def DF (ns : List Nd) : Prop := ∀ n ∈ ns, df n
/-- Words are not empty, and no signs. -/
def TW (ts : List Tok) : Prop := ∀ t ∈ ts, (t.k = 1 → t.t ≠ [] ∧ t.t ∉ sgs) ∧ (t.k = 3 → digW t.t = true)
theorem TW.tail {ts : List Tok} (h : TW ts) : TW ts.tail := fun t ht => h t (List.mem_of_mem_tail ht)
theorem cnt_cons (t : Tok) (r : List Tok) : cnt (t :: r) = (if (t.k == 1 && !resB t.t) = true then 1 else 0) + cnt r := by
  unfold cnt
  rw [List.filter_cons]
  split
  · simp; omega
  · simp
theorem cnt_no {t : Tok} {r : List Tok} (h : (t.k == 1 && !resB t.t) = false) : cnt (t :: r) = cnt r := by rw [cnt_cons, h]; simp
theorem cnt_word {t : Tok} {r : List Tok} (h : t.k = 1) : cnt (t :: r) = plainN [t.t] + cnt r := by
  rw [cnt_cons, h]
  unfold plainN
  rw [List.filter_cons]
  cases resB t.t <;> simp
structure Sg (ts : List Tok) (ns : List Nd) (ts' : List Tok) (ns' : List Nd) : Prop where
  sub : ∀ t ∈ ts', t ∈ ts
  pre : ∃ s, ns' = ns ++ s
  wts : DF ns' → wtN ns' + cnt ts' = wtN ns + cnt ts
theorem Sg.refl (ts : List Tok) (ns : List Nd) : Sg ts ns ts ns := ⟨fun _ h => h, ⟨[], by simp⟩, fun _ => rfl⟩
theorem Sg.df {ts : List Tok} {ns : List Nd} {ts' : List Tok} {ns' : List Nd} (h : Sg ts ns ts' ns') (hd : DF ns') : DF ns := by
  obtain ⟨s, rfl⟩ := h.pre
  exact fun n hn => hd n (List.mem_append_left _ hn)
theorem Sg.trans {a b c : List Tok} {x y z : List Nd} (h : Sg a x b y) (g : Sg b y c z) : Sg a x c z := by
  refine ⟨fun t ht => h.sub t (g.sub t ht), ?_, fun hd => ?_⟩
  · obtain ⟨s, rfl⟩ := h.pre
    obtain ⟨s', rfl⟩ := g.pre
    exact ⟨s ++ s', by simp⟩
  · have h1 := g.wts hd
    have h2 := h.wts (g.df hd)
    omega
theorem TW.sub {ts ts' : List Tok} (h : TW ts) (hs : ∀ t ∈ ts', t ∈ ts) : TW ts' := fun t ht => h t (hs t ht)
theorem is_cnt {ts : List Tok} {s : List UInt8} (hw : TW ts) (hs : resB s = true ∨ s ∈ sgs) (h : isB ts s = true) : cnt ts.tail = cnt ts := by
  cases ts with
  | nil => rfl
  | cons t r =>
    have hk := is_k h
    refine (cnt_no ?_).symm
    by_cases h1 : t.k = 1
    · rcases hs with hs | hs
      · rw [hk.2, hs]; simp
      · exact absurd (hk.2 ▸ hs) ((hw t (List.mem_cons_self ..)).1 h1).2
    · rw [show (t.k == 1) = false from beq_eq_false_iff_ne.2 h1]; rfl
theorem Sg.is {ts : List Tok} {ns : List Nd} {s : List UInt8} (hw : TW ts) (hs : resB s = true ∨ s ∈ sgs) (h : isB ts s = true) : Sg ts ns ts.tail ns := ⟨fun t ht => List.mem_of_mem_tail ht, ⟨[], by simp⟩, fun _ => by rw [is_cnt hw hs h]⟩
theorem Sg.take {ts : List Tok} {ns : List Nd} {s : List UInt8} (hw : TW ts) (hs : resB s = true ∨ s ∈ sgs) : Sg ts ns (takeT ts s) ns := by
  unfold takeT
  split
  · exact Sg.is hw hs (by assumption)
  · exact Sg.refl _ _
theorem Sg.breaks {ns : List Nd} : ∀ (ts : List Tok), Sg ts ns (breaksF ts) ns
  | [] => Sg.refl _ _
  | t :: r => by
    unfold breaksF
    split
    · rename_i h
      rw [Bool.and_eq_true] at h
      have h1 := Sg.breaks (ns := ns) r
      have hk : t.k = 2 := eq_of_beq h.1
      refine ⟨fun x hx => List.mem_cons_of_mem _ (h1.sub x hx), h1.pre, fun hd => ?_⟩
      rw [h1.wts hd, cnt_no (by rw [hk]; rfl)]
    · exact Sg.refl _ _
theorem Sg.need {ts : List Tok} {ns : List Nd} {s : List UInt8} {u : Unit} {ts' : List Tok} {ns' : List Nd} (hw : TW ts) (hs : resB s = true ∨ s ∈ sgs) (h : needR s ts ns = .ok u ts' ns') : Sg ts ns ts' ns' ∧ ns' = ns := by
  unfold needR at h
  split at h
  · injection h with _ h1 h2
    subst h1 h2
    exact ⟨Sg.is hw hs (by assumption), rfl⟩
  · exact (wrong_ok h).elim
/-- A node without words is laid. -/
theorem Sg.lay {ts : List Tok} {ns : List Nd} (n : Nd) (h0 : wt n = 0) : Sg ts ns ts (ns ++ [n]) := ⟨fun _ h => h, ⟨[n], rfl⟩, fun _ => by rw [wtN_app, wtN_one, h0]; omega⟩
theorem wt_kids (k : Int) (l : List Int) : wt { kind := k, kids := l } = 0 := by simp [wt, plainN]
theorem Sg.wb_tok {a b : List Tok} {ns ns' : List Nd} (_ : Sg a ns b ns) (h : Wb ns ns') : Wb ns ns' := h

/-! ### readers -/
def Fine (f : Rdr) : Prop := ∀ ts ns x ts' ns', Good ts → TW ts → f ts ns = .ok x ts' ns' → Sg ts ns ts' ns' ∧ Wb ns ns'
theorem kids_fine {c : Nat} {ts ts1 : List Tok} {ns ns1 : List Nd} {cc : Bool} {kids : List Int} {bs : List Nat} {b0 : Nat} {x : Int} (hb : WB ns bs) (hw : Wb ns ns1) (hl : Left c ts ns x ts1 ns1) (hc : Chn cc bs kids ns.length b0) : ∃ cs, WB ns1 (bs ++ cs) ∧ Chn cc (bs ++ cs) (kids ++ [x]) ns1.length b0 := by
  obtain ⟨cs, h1, h2⟩ := hw bs hb
  have h3 := hl.more
  rw [hl.last]
  exact ⟨cs, h1, Chn.kid hb h1 h2 (by omega) hc⟩
theorem list_loop_fine {item : Rdr} (hd : Dec 3 item) (hi : Fine item) : ∀ (f : Nat) (kids : List Int) (back : Bool) (ts : List Tok) (ns : List Nd) (k : List Int × Bool) (ts' : List Tok) (ns' : List Nd), Good ts → TW ts → listL item f kids back ts ns = .ok k ts' ns' →
    Sg ts ns ts' ns' ∧ (∀ bs b0, WB ns bs → Chn false bs kids ns.length b0 → ∃ cs, WB ns' (bs ++ cs) ∧ Chn false (bs ++ cs) k.1 ns'.length b0) := by
  intro f
  induction f with
  | zero => intro kids back ts ns k ts' ns' _ _ h; cases h
  | succ f ih =>
    intro kids back ts ns k ts' ns' hg hw h
    rw [listL] at h
    obtain ⟨x, t1, n1, he, h⟩ := bind_eq h
    obtain ⟨s1, w1⟩ := hi _ _ _ _ _ hg hw he
    have hl := hd _ _ _ _ _ hg he
    have hw1 : TW t1 := hw.sub s1.sub
    simp only [] at h
    by_cases ha : isB t1 sAmp = true
    · have ht : takeT t1 sAmp = t1.tail := if_pos ha
      have ht2 := is_tail hl.good ha
      have hb := breaks_good ht2.1
      simp only [ha, ht, Bool.true_or, if_true] at h
      have s2 : Sg ts ns (breaksF t1.tail) (n1 ++ [{ kind := 7, kids := [x] }]) := ((s1.trans (Sg.is hw1 (.inr (by decide)) ha)).trans (Sg.breaks _)).trans (Sg.lay _ (wt_kids _ _))
      have w2 : Wb ns (n1 ++ [{ kind := 7, kids := [x] }]) := lay_wb (c := false) (.inr (.inl ⟨.inr (.inl rfl), rfl, rfl⟩)) rfl fun bs hb => kids_fine hb w1 hl (Chn.nil _ _ _)
      have chain : ∀ bs b0, WB ns bs → Chn false bs kids ns.length b0 → ∃ cs, WB (n1 ++ [{ kind := 7, kids := [x] }]) (bs ++ cs) ∧ Chn false (bs ++ cs) (kids ++ [(n1.length : Int)]) (n1 ++ [({ kind := 7, kids := [x] } : Nd)]).length b0 := fun bs b0 hb hc => by
        obtain ⟨cs, c1, c2⟩ := w2 bs hb
        have := Chn.kid hb c1 c2 (by simp) hc
        rw [show (((n1 ++ [({ kind := 7, kids := [x] } : Nd)]).length : Nat) : Int) - 1 = n1.length by simp] at this
        exact ⟨cs, c1, this⟩
      by_cases hbg : beginsB (breaksF t1.tail) = true
      · rw [if_pos hbg] at h
        obtain ⟨q1, q2⟩ := ih _ _ _ _ _ _ _ hb.1 (hw.sub s2.sub) h
        refine ⟨s2.trans q1, fun bs b0 hb hc => ?_⟩
        obtain ⟨cs, c1, c2⟩ := chain bs b0 hb hc
        obtain ⟨cs2, c3, c4⟩ := q2 _ _ c1 c2
        exact ⟨cs ++ cs2, by rw [← List.append_assoc]; exact c3, by rw [← List.append_assoc]; exact c4⟩
      · rw [if_neg hbg] at h
        injection h with h1 h2 h3
        subst h1 h2 h3
        exact ⟨s2, chain⟩
    · have ha : isB t1 sAmp = false := by simpa using ha
      have ht : takeT t1 sAmp = t1 := by unfold takeT; rw [ha]; rfl
      simp only [ha, ht, Bool.false_or] at h
      have chain : ∀ bs b0, WB ns bs → Chn false bs kids ns.length b0 → ∃ cs, WB n1 (bs ++ cs) ∧ Chn false (bs ++ cs) (kids ++ [x]) n1.length b0 := fun bs b0 hb hc => kids_fine hb w1 hl hc
      by_cases hs : (isB t1 sSemi || isB t1 sLf) = true
      · simp only [hs, if_true] at h
        have hsT : Good t1.tail ∧ Sg t1 n1 t1.tail n1 := by
          rw [Bool.or_eq_true] at hs
          rcases hs with hs | hs
          · exact ⟨(is_tail hl.good hs).1, Sg.is hw1 (.inr (by decide)) hs⟩
          · exact ⟨(is_tail hl.good hs).1, Sg.is hw1 (.inr (by decide)) hs⟩
        have hb := breaks_good hsT.1
        simp only [Bool.false_eq_true, if_false] at h
        have s2 := (s1.trans hsT.2).trans (Sg.breaks (ns := n1) _)
        by_cases hbg : beginsB (breaksF t1.tail) = true
        · rw [if_pos hbg] at h
          obtain ⟨q1, q2⟩ := ih _ _ _ _ _ _ _ hb.1 (hw.sub s2.sub) h
          refine ⟨s2.trans q1, fun bs b0 hb hc => ?_⟩
          obtain ⟨cs, c1, c2⟩ := chain bs b0 hb hc
          obtain ⟨cs2, c3, c4⟩ := q2 _ _ c1 c2
          exact ⟨cs ++ cs2, by rw [← List.append_assoc]; exact c3, by rw [← List.append_assoc]; exact c4⟩
        · rw [if_neg hbg] at h
          injection h with h1 h2 h3
          subst h1 h2 h3
          exact ⟨s2, chain⟩
      · have hs : (isB t1 sSemi || isB t1 sLf) = false := by simpa using hs
        simp only [hs, Bool.false_eq_true, if_false] at h
        injection h with h1 h2 h3
        subst h1 h2 h3
        exact ⟨s1, chain⟩
theorem one_chain {bs cs : List Nat} {x : Int} {n b0 : Nat} (h : Chn false (bs ++ cs) [x] n b0) : (bs ++ cs).getD (n - 1) 0 = b0 := by
  unfold Chn at h
  rw [List.reverse_singleton, goK, if_neg (by simp)] at h
  split at h
  · cases h
  · injection h with h
theorem list_fine {item : Rdr} (hd : Dec 3 item) (hi : Fine item) : Fine (listF item) := by
  intro ts ns x ts' ns' hg hw h
  unfold listF at h
  obtain ⟨k, t1, n1, he, h⟩ := bind_eq h
  have hb := breaks_good hg
  have s0 := Sg.breaks (ns := ns) ts
  have ll := list_loop hd _ _ _ _ _ _ _ _ hb.1 he
  obtain ⟨s1, w1⟩ := list_loop_fine hd hi _ _ _ _ _ _ _ _ hb.1 (hw.sub s0.sub) he
  have s2 := (s0.trans s1).trans (Sg.breaks (ns := n1) t1)
  have lay : Sg ts ns (breaksF t1) (n1 ++ [{ kind := 6, kids := k.1 }]) ∧ Wb ns (n1 ++ [{ kind := 6, kids := k.1 }]) :=
    ⟨s2.trans (Sg.lay _ (wt_kids _ _)), lay_wb (c := false) (.inr (.inr (.inr (.inr (.inr (.inl ⟨rfl, by have := ll.2.2.2.2.2.1; show 1 ≤ k.1.length; simp only [List.length_nil] at this; omega, rfl⟩)))))) rfl fun bs hb => w1 bs _ hb (Chn.nil _ _ _)⟩
  split at h
  · rename_i x0 hk0
    rw [hk0] at lay
    split at h
    · obtain ⟨rfl, rfl, rfl⟩ := lay_ok h
      exact lay
    · injection h with h1 h2 h3
      subst h1 h2 h3
      refine ⟨s2, fun bs hb => ?_⟩
      obtain ⟨cs, c1, c2⟩ := w1 bs _ hb (Chn.nil _ _ _)
      rw [hk0] at c2
      exact ⟨cs, c1, one_chain c2⟩
  · obtain ⟨rfl, rfl, rfl⟩ := lay_ok h
    exact lay
theorem item_loop_fine {pipe : Rdr} (hd : Dec 3 pipe) (hi : Fine pipe) : ∀ (f : Nat) (x : Int) (ts : List Tok) (ns : List Nd) (y : Int) (ts' : List Tok) (ns' : List Nd), Good ts → TW ts → itemL pipe f x ts ns = .ok y ts' ns' →
    Sg ts ns ts' ns' ∧ (∀ bs b0, WB ns bs → Chn false bs [x] ns.length b0 → ∃ cs, WB ns' (bs ++ cs) ∧ Chn false (bs ++ cs) [y] ns'.length b0) := by
  intro f
  induction f with
  | zero => intro x ts ns y ts' ns' _ _ h; cases h
  | succ f ih =>
    intro x ts ns y ts' ns' hg hw h
    rw [itemL] at h
    have step : ∀ (s : List UInt8) (kd : Int), s ∈ sgs → (kd = 4 ∨ kd = 5) → isB ts s = true → ((pipe (breaksF ts.tail) ns).bind fun y ts ns => itemL pipe f ns.length ts (ns ++ [{ kind := kd, kids := [x, y] }])) = .ok y ts' ns' → Sg ts ns ts' ns' ∧ (∀ bs b0, WB ns bs → Chn false bs [x] ns.length b0 → ∃ cs, WB ns' (bs ++ cs) ∧ Chn false (bs ++ cs) [y] ns'.length b0) := by
      intro s kd hs hkd ha h
      have ht2 := is_tail hg ha
      have hb := breaks_good ht2.1
      have s0 := (Sg.is (ns := ns) hw (.inr hs) ha).trans (Sg.breaks _)
      obtain ⟨z, t1, n1, he, h⟩ := bind_eq h
      obtain ⟨s1, w1⟩ := hi _ _ _ _ _ hb.1 (hw.sub s0.sub) he
      have hl := hd _ _ _ _ _ hb.1 he
      have s2 := (s0.trans s1).trans (Sg.lay { kind := kd, kids := [x, z] } (wt_kids _ _))
      obtain ⟨q1, q2⟩ := ih _ _ _ _ _ _ hl.good (hw.sub s2.sub) h
      refine ⟨s2.trans q1, fun bs b0 hb hc => ?_⟩
      obtain ⟨cs, c1, c2⟩ := kids_fine hb w1 hl hc
      have hok : NdOk { kind := kd, kids := [x, z] } := .inr (.inr (.inr (.inl ⟨by rcases hkd with e | e; exact .inl e; exact .inr (.inl e), rfl, rfl⟩)))
      have hk14 : (({ kind := kd, kids := [x, z] } : Nd).kind == 14) = false := by rcases hkd with e | e <;> (subst e; rfl)
      have c3 := WB.lay c1 hok hk14 c2
      have c4 : Chn false ((bs ++ cs) ++ [b0]) [(n1.length : Int)] (n1 ++ [({ kind := kd, kids := [x, z] } : Nd)]).length b0 := by
        have := Chn.kid (cs := [b0]) (kids := []) (c := false) (b0 := b0) c1 c3
        unfold Chn
        rw [List.reverse_singleton, goK, if_neg (by simp), if_neg (by simp), lay_last c1]
        rfl
      obtain ⟨cs2, c5, c6⟩ := q2 _ _ c3 c4
      exact ⟨cs ++ ([b0] ++ cs2), by rw [← List.append_assoc, ← List.append_assoc]; exact c5, by rw [← List.append_assoc, ← List.append_assoc]; exact c6⟩
    split at h
    · rename_i ha
      exact step sAnd 4 (by decide) (.inl rfl) ha h
    · split at h
      · rename_i ha
        exact step sOr 5 (by decide) (.inr rfl) ha h
      · injection h with h1 h2 h3
        subst h1 h2 h3
        exact ⟨Sg.refl _ _, fun bs b0 hb hc => ⟨[], by simpa using hb, by simpa using hc⟩⟩
theorem item_fine {pipe : Rdr} (hd : Dec 3 pipe) (hi : Fine pipe) : Fine (itemF pipe) := by
  intro ts ns x ts' ns' hg hw h
  unfold itemF at h
  obtain ⟨k, t1, n1, he, h⟩ := bind_eq h
  obtain ⟨s1, w1⟩ := hi _ _ _ _ _ hg hw he
  have hl := hd _ _ _ _ _ hg he
  obtain ⟨s2, w2⟩ := item_loop_fine hd hi _ _ _ _ _ _ _ hl.good (hw.sub s1.sub) h
  refine ⟨s1.trans s2, fun bs hb => ?_⟩
  obtain ⟨cs, c1, c2⟩ := kids_fine hb w1 hl (Chn.nil false bs ns.length)
  obtain ⟨cs2, c3, c4⟩ := w2 _ _ c1 c2
  exact ⟨cs ++ cs2, by rw [← List.append_assoc]; exact c3, by rw [← List.append_assoc]; exact one_chain c4⟩
theorem pipe_loop_fine {cmd : Rdr} (hd : Dec 5 cmd) (hi : Fine cmd) : ∀ (f : Nat) (kids : List Int) (ts : List Tok) (ns : List Nd) (k : List Int) (ts' : List Tok) (ns' : List Nd), Good ts → TW ts → pipeL cmd f kids ts ns = .ok k ts' ns' →
    Sg ts ns ts' ns' ∧ (∀ bs b0, WB ns bs → Chn false bs kids ns.length b0 → ∃ cs, WB ns' (bs ++ cs) ∧ Chn false (bs ++ cs) k ns'.length b0) := by
  intro f
  induction f with
  | zero => intro kids ts ns k ts' ns' _ _ h; cases h
  | succ f ih =>
    intro kids ts ns k ts' ns' hg hw h
    rw [pipeL] at h
    split at h
    · rename_i ha
      have ht2 := is_tail hg ha
      have hb := breaks_good ht2.1
      have s0 := (Sg.is (ns := ns) hw (.inr (by decide)) ha).trans (Sg.breaks _)
      obtain ⟨z, t1, n1, he, h⟩ := bind_eq h
      obtain ⟨s1, w1⟩ := hi _ _ _ _ _ hb.1 (hw.sub s0.sub) he
      have hl := hd _ _ _ _ _ hb.1 he
      have s2 := s0.trans s1
      obtain ⟨q1, q2⟩ := ih _ _ _ _ _ _ hl.good (hw.sub s2.sub) h
      refine ⟨s2.trans q1, fun bs b0 hb hc => ?_⟩
      obtain ⟨cs, c1, c2⟩ := kids_fine hb w1 hl hc
      obtain ⟨cs2, c3, c4⟩ := q2 _ _ c1 c2
      exact ⟨cs ++ cs2, by rw [← List.append_assoc]; exact c3, by rw [← List.append_assoc]; exact c4⟩
    · injection h with h1 h2 h3
      subst h1 h2 h3
      exact ⟨Sg.refl _ _, fun bs b0 hb hc => ⟨[], by simpa using hb, by simpa using hc⟩⟩
theorem not_fine {b : Bool} {x y : Int} {ts ts' : List Tok} {ns ns0 ns' : List Nd} (hc : ∀ bs, WB ns0 bs → ∃ cs, WB ns (bs ++ cs) ∧ Chn false (bs ++ cs) [x] ns.length ns0.length) (h : notR b x ts ns = .ok y ts' ns') : Sg ts ns ts' ns' ∧ Wb ns0 ns' := by
  unfold notR at h
  split at h
  · obtain ⟨rfl, rfl, rfl⟩ := lay_ok h
    exact ⟨Sg.lay _ (wt_kids _ _), lay_wb (c := false) (.inr (.inl ⟨.inl rfl, rfl, rfl⟩)) rfl hc⟩
  · injection h with h1 h2 h3
    subst h1 h2 h3
    refine ⟨Sg.refl _ _, fun bs hb => ?_⟩
    obtain ⟨cs, c1, c2⟩ := hc bs hb
    exact ⟨cs, c1, one_chain c2⟩
theorem pipe_fine {cmd : Rdr} (hd : Dec 5 cmd) (hi : Fine cmd) : Fine (pipeF cmd) := by
  intro ts ns x ts' ns' hg hw h
  unfold pipeF at h
  obtain ⟨y, t1, n1, he, h⟩ := bind_eq h
  have hb := take_good (s := wBang) hg
  have s0 := Sg.take (ns := ns) (s := wBang) hw (.inl (by decide))
  obtain ⟨s1, w1⟩ := hi _ _ _ _ _ hb.1 (hw.sub s0.sub) he
  have hl := hd _ _ _ _ _ hb.1 he
  obtain ⟨k, t2, n2, he2, h⟩ := bind_eq h
  have s01 := s0.trans s1
  obtain ⟨s2, w2⟩ := pipe_loop_fine hd hi _ _ _ _ _ _ _ hl.good (hw.sub s01.sub) he2
  have pl := pipe_loop hd _ _ _ _ _ _ _ hl.good (by simp; exact hl.last) he2
  have ch : ∀ bs, WB ns bs → ∃ cs, WB n2 (bs ++ cs) ∧ Chn false (bs ++ cs) k n2.length ns.length := fun bs hb => by
    obtain ⟨cs, c1, c2⟩ := kids_fine hb w1 hl (Chn.nil false bs ns.length)
    obtain ⟨cs2, c3, c4⟩ := w2 _ _ c1 c2
    exact ⟨cs ++ cs2, by rw [← List.append_assoc]; exact c3, by rw [← List.append_assoc]; exact c4⟩
  split at h
  · rename_i h1
    have wl : Wb ns (n2 ++ [{ kind := 3, kids := k }]) := lay_wb (c := false) (.inr (.inr (.inr (.inr (.inl ⟨rfl, by show 2 ≤ k.length; omega, rfl⟩))))) rfl ch
    obtain ⟨q1, q2⟩ := not_fine (fun bs hb => by
      obtain ⟨cs, c1, c2⟩ := wl bs hb
      refine ⟨cs, c1, ?_⟩
      unfold Chn
      rw [List.reverse_singleton, goK, if_neg (by simp), if_neg (by simp), c2]
      rfl) h
    exact ⟨((s01.trans s2).trans (Sg.lay _ (wt_kids _ _))).trans q1, q2⟩
  · rename_i h1
    have hk1 : k.length = 1 := by have := pl.2.2.2.2.1; simp only [List.length_singleton] at this; omega
    obtain ⟨z, rfl⟩ := List.length_eq_one_iff.1 hk1
    obtain ⟨q1, q2⟩ := not_fine ch h
    exact ⟨(s01.trans s2).trans q1, q2⟩

end Go.Proofs.Ytgpfjcogaheopaa

end
section
/- The plain parser's nodes: simple commands and compounds. -/
namespace Go.Proofs.Ytgpfjcogaheopaa
open Lx
set_option maxRecDepth 100000

theorem wt_words (n : Nd) (s : List UInt8) : wt { n with words := n.words ++ [s] } = wt n + plainN [s] := by
  unfold wt
  simp only [plainN_app]
  omega
theorem wt_sets (n : Nd) (s : List UInt8) : wt { n with sets := n.sets ++ [s] } = wt n + 1 := by
  unfold wt
  simp only [List.length_append, List.length_singleton]
  omega
theorem wt_redirs (n : Nd) (l : List Rd) : wt { n with redirs := n.redirs ++ l } = wt n + plainN (l.map Rd.wd) := by
  unfold wt
  simp only [List.map_append, plainN_app]
  omega
theorem rdr_k {t : Tok} (h : rdrB t = true) : t.k = 2 := by
  unfold rdrB at h
  rw [Bool.and_eq_true] at h
  exact eq_of_beq h.1
theorem redir_fine : ∀ (f : Nat) (acc : List Rd) (ts : List Tok) (ns : List Nd) (l : List Rd) (ts' : List Tok) (ns' : List Nd), Good ts → TW ts → redirL f acc ts ns = .ok l ts' ns' →
    (∀ t ∈ ts', t ∈ ts) ∧ (∃ m, l = acc ++ m) ∧ ((∀ r ∈ l, digW r.wd = false) → plainN (l.map Rd.wd) + cnt ts' = plainN (acc.map Rd.wd) + cnt ts) := by
  intro f
  induction f with
  | zero => intro acc ts ns l ts' ns' _ _ h; cases h
  | succ f ih =>
    intro acc ts ns l ts' ns' hg hw h
    obtain ⟨t, r, rfl⟩ := hg.ne
    rw [redirL] at h
    have word : ∀ (x : Rd) (w : Tok) (rest : List Tok), x.wd = w.t → wkB (w :: rest) = true → Good rest → (∀ u ∈ (w :: rest), u ∈ (t :: r)) → redirL f (acc ++ [x]) rest ns = .ok l ts' ns' →
        (∀ u ∈ ts', u ∈ (t :: r)) ∧ (∃ m, l = acc ++ m) ∧ ((∀ r ∈ l, digW r.wd = false) → plainN (l.map Rd.wd) + cnt ts' = plainN (acc.map Rd.wd) + cnt (w :: rest)) := by
      intro x w rest hx hwk hgr hsub h
      obtain ⟨q1, ⟨m, q2⟩, q3⟩ := ih _ _ _ _ _ _ hgr (fun u hu => hw u (hsub u (List.mem_cons_of_mem _ hu))) h
      refine ⟨fun u hu => hsub u (List.mem_cons_of_mem _ (q1 u hu)), ⟨[x] ++ m, by rw [q2]; simp⟩, fun hd => ?_⟩
      have h1 := q3 hd
      have hxd := hd x (by rw [q2]; simp)
      have hk : w.k = 1 := by
        unfold wkB at hwk
        simp only [Bool.or_eq_true, beq_iff_eq] at hwk
        rcases hwk with e | e
        · exact e
        · have := (hw w (hsub w (List.mem_cons_self ..))).2 e
          rw [hx, this] at hxd
          cases hxd
      rw [h1, cnt_word hk, List.map_append, plainN_app]
      simp only [List.map_cons, List.map_nil, hx]
      omega
    split at h
    · rename_i h3
      rw [Bool.and_eq_true] at h3
      have hk : t.k = 3 := eq_of_beq h3.1
      have g1 := hg.tail (by omega)
      obtain ⟨o, r, rfl⟩ := g1.ne
      have ho : o.k = 2 := rdr_k h3.2
      have g2 := g1.tail (by omega)
      obtain ⟨w, r, rfl⟩ := g2.ne
      split at h
      · rename_i hwk
        have g3 := g2.tail (by intro e; simp [wkB, e] at hwk)
        obtain ⟨q1, q2, q3⟩ := word _ w r rfl hwk g3 (fun u hu => List.mem_cons_of_mem _ (List.mem_cons_of_mem _ hu)) h
        refine ⟨q1, q2, fun hd => ?_⟩
        rw [q3 hd, cnt_no (t := t) (by rw [hk]; rfl), cnt_no (t := o) (by rw [ho]; rfl)]
      · exact (wrong_ok h).elim
    · split at h
      · rename_i h4
        have ho : t.k = 2 := rdr_k h4
        have g2 := hg.tail (by omega)
        obtain ⟨w, r, rfl⟩ := g2.ne
        split at h
        · rename_i hwk
          have g3 := g2.tail (by intro e; simp [wkB, e] at hwk)
          obtain ⟨q1, q2, q3⟩ := word _ w r rfl hwk g3 (fun u hu => List.mem_cons_of_mem _ hu) h
          refine ⟨q1, q2, fun hd => ?_⟩
          rw [q3 hd, cnt_no (t := t) (by rw [ho]; rfl)]
        · exact (wrong_ok h).elim
      · injection h with h1 h2 h3
        subst h1 h2 h3
        exact ⟨fun _ h => h, ⟨[], by simp⟩, fun _ => rfl⟩
theorem redirF_fine {ts : List Tok} {ns : List Nd} {l : List Rd} {ts' : List Tok} {ns' : List Nd} (hg : Good ts) (hw : TW ts) (h : redirF ts ns = .ok l ts' ns') : (∀ t ∈ ts', t ∈ ts) ∧ ((∀ r ∈ l, digW r.wd = false) → plainN (l.map Rd.wd) + cnt ts' = cnt ts) := by
  obtain ⟨h1, _, h2⟩ := redir_fine _ _ _ _ _ _ _ hg hw h
  exact ⟨h1, fun hd => by have := h2 hd; simpa [plainN] using this⟩
theorem res_set : ∀ s ∈ resW, setB s = false := by decide
theorem set_plain {s : List UInt8} (h : setB s = true) : resB s = false := by
  cases hr : resB s with
  | false => rfl
  | true =>
    have hm : s ∈ resW := by unfold resB at hr; simpa using hr
    rw [res_set s hm] at h
    cases h
theorem sim_fine : ∀ (f : Nat) (n : Nd) (ts : List Tok) (ns : List Nd) (m : Nd) (ts' : List Tok) (ns' : List Nd), Good ts → TW ts → simL f n ts ns = .ok m ts' ns' →
    (∀ t ∈ ts', t ∈ ts) ∧ (m.kind = n.kind ∧ m.kids = n.kids ∧ m.name = n.name ∧ ∃ l, m.redirs = n.redirs ++ l) ∧ (df m → wt m + cnt ts' = wt n + cnt ts) := by
  intro f
  induction f with
  | zero => intro n ts ns m ts' ns' _ _ h; cases h
  | succ f ih =>
    intro n ts ns m ts' ns' hg hw h
    rw [simL] at h
    obtain ⟨l, t1, n1, he, hh⟩ := bind_eq h
    clear h
    have h := hh
    clear hh
    obtain ⟨hg1, hn1, _⟩ := redirF_good hg he
    obtain ⟨hs1, hc1⟩ := redirF_fine hg hw he
    subst hn1
    have hw1 : TW t1 := hw.sub hs1
    obtain ⟨t, r, rfl⟩ := hg1.ne
    simp only [] at h
    have stay : PR.ok { n with redirs := n.redirs ++ l } (t :: r) n1 = PR.ok m ts' ns' → (∀ u ∈ ts', u ∈ ts) ∧ (m.kind = n.kind ∧ m.kids = n.kids ∧ m.name = n.name ∧ ∃ l, m.redirs = n.redirs ++ l) ∧ (df m → wt m + cnt ts' = wt n + cnt ts) := by
      intro h
      injection h with h1 h2 h3
      subst h1 h2 h3
      refine ⟨hs1, ⟨rfl, rfl, rfl, l, rfl⟩, fun hd => ?_⟩
      have := hc1 (fun r hr => hd r (List.mem_append_right _ hr))
      rw [wt_redirs]
      omega
    split at h
    · exact stay h
    · rename_i hk
      have hk1 : t.k = 1 := by omega
      have go : ∀ (n2 : Nd), n2.kind = n.kind ∧ n2.kids = n.kids ∧ n2.name = n.name ∧ n2.redirs = n.redirs ++ l → wt n2 = wt n + plainN (l.map Rd.wd) + plainN [t.t] → simL f n2 r n1 = .ok m ts' ns' → (∀ u ∈ ts', u ∈ ts) ∧ (m.kind = n.kind ∧ m.kids = n.kids ∧ m.name = n.name ∧ ∃ l, m.redirs = n.redirs ++ l) ∧ (df m → wt m + cnt ts' = wt n + cnt ts) := by
        intro n2 hn2 hwt h
        obtain ⟨q1, ⟨q2, q3, q4, l2, q5⟩, q6⟩ := ih _ _ _ _ _ _ (hg1.tail (by omega)) hw1.tail h
        refine ⟨fun u hu => hs1 u (List.mem_cons_of_mem _ (q1 u hu)), ⟨q2.trans hn2.1, q3.trans hn2.2.1, q4.trans hn2.2.2.1, l ++ l2, by rw [q5, hn2.2.2.2]; simp⟩, fun hd => ?_⟩
        have h1 := q6 hd
        have h2 := hc1 (fun r hr => hd r (by rw [q5, hn2.2.2.2]; simp [hr]))
        rw [cnt_word hk1] at h2
        omega
      have wW : wt { n with redirs := n.redirs ++ l, words := n.words ++ [t.t] } = wt n + plainN (l.map Rd.wd) + plainN [t.t] := (wt_words { n with redirs := n.redirs ++ l } t.t).trans (by rw [wt_redirs])
      split at h
      · exact go { n with redirs := n.redirs ++ l, words := n.words ++ [t.t] } ⟨rfl, rfl, rfl, rfl⟩ wW h
      · split at h
        · rename_i hset
          refine go { n with redirs := n.redirs ++ l, sets := n.sets ++ [t.t] } ⟨rfl, rfl, rfl, rfl⟩ ?_ h
          have e1 := wt_sets { n with redirs := n.redirs ++ l } t.t
          have e2 := wt_redirs n l
          have e3 := set_plain hset
          have e4 : plainN [t.t] = 1 := by simp [plainN, e3]
          rw [e4]
          exact e1.trans (by rw [e2])
        · split at h
          · exact stay h
          · exact go { n with redirs := n.redirs ++ l, words := n.words ++ [t.t] } ⟨rfl, rfl, rfl, rfl⟩ wW h
theorem simF_fine : Fine simF := by
  intro ts ns x ts' ns' hg hw h
  unfold simF at h
  obtain ⟨n, t1, n1, he, hh⟩ := bind_eq h
  clear h
  have h := hh
  clear hh
  obtain ⟨_, hn1, _⟩ := sim_good _ _ _ _ _ _ _ hg he
  obtain ⟨h1, ⟨h2, h3, h4, _⟩, h5⟩ := sim_fine _ _ _ _ _ _ _ hg hw he
  subst hn1
  split at h
  · exact (wrong_ok h).elim
  · rename_i h0
    obtain ⟨rfl, rfl, rfl⟩ := lay_ok h
    refine ⟨⟨h1, ⟨[n], rfl⟩, fun hd => ?_⟩, lay_wb (c := false) (.inl ⟨h2, h3, by omega, h4⟩) (by rw [h2]; rfl) fun bs hb => ⟨[], by simpa using hb, by rw [h3]; exact Chn.nil _ _ _⟩⟩
    have h6 := h5 (hd n (by simp))
    have h7 : wt { kind := 1 } = 0 := by simp [wt, plainN]
    rw [wtN_app, wtN_one]
    omega

/-! ### compounds -/
/-- A compound's reader: what it leaves last is no simple command, and has no redirections. -/
def FineH (f : Rdr) : Prop := ∀ ts ns x ts' ns', Good ts → TW ts → cmpH ts = true → f ts ns = .ok x ts' ns' → Sg ts ns ts' ns' ∧ Wb ns ns'
def FineC (f : Rdr) : Prop := ∀ ts ns x ts' ns', Good ts → TW ts → cmpH ts = true → f ts ns = .ok x ts' ns' → Sg ts ns ts' ns' ∧ Wb ns ns' ∧ ∃ s n, ns' = s ++ [n] ∧ n.redirs = [] ∧ n.kind ≠ 1
theorem WB.inv {s : List Nd} {n : Nd} {bs : List Nat} (h : WB (s ++ [n]) bs) : ∃ bs0 b, bs = bs0 ++ [b] ∧ WB s bs0 ∧ NdOk n ∧ goK bs0 (n.kind == 14) n.kids.reverse bs0.length = some b := by
  generalize hx : s ++ [n] = x at h
  cases h with
  | nil => simp at hx
  | @snoc ns bs0 n' b h1 h2 h3 =>
    obtain ⟨rfl, e⟩ := List.append_inj' hx rfl
    injection e with e
    subst e
    exact ⟨bs0, b, rfl, h1, h2, h3⟩
theorem ndok_redirs {n : Nd} (l : List Rd) (hk : n.kind ≠ 1) (h : NdOk n) : NdOk { n with redirs := l } := by
  rcases h with h | h
  · exact absurd h.1 hk
  · exact .inr h
theorem setRd_last (s : List Nd) (n : Nd) (l : List Rd) : setRd (s ++ [n]) ((s ++ [n]).length - 1 : Int) l = s ++ [{ n with redirs := l }] := by
  unfold setRd
  have : (((s ++ [n]).length : Int) - 1).toNat = s.length := by simp
  rw [this]
  clear this
  induction s with
  | nil => rfl
  | cons a s ih => simp only [List.cons_append, List.length_cons, List.modify_succ_cons]; rw [ih]
theorem within_h {P : Rdr → Prop} {f : Drd} (hP : ∀ d, P (f d)) (hmono : ∀ d, (∀ ts ns x ts' ns', withinF f d ts ns = .ok x ts' ns' → f (d + 1) ts ns = .ok x ts' ns') → P (f (d + 1)) → P (withinF f d)) (d : Nat) : P (withinF f d) := by
  refine hmono d (fun ts ns x ts' ns' h => ?_) (hP (d + 1))
  unfold withinF at h
  split at h
  · cases h
  · exact h
theorem cmp_fine {core : Drd} (hd : DecD 5 core) (hc : ∀ d, FineC (core d)) (d : Nat) : FineH (cmpF core d) := by
  intro ts ns x ts' ns' hg hw hh h
  unfold cmpF at h
  obtain ⟨y, t1, n1, he, hh⟩ := bind_eq h
  clear h
  have h := hh
  clear hh
  have hl := within_dec hd d ts ns _ _ _ hg he
  have he' : core (d + 1) ts ns = .ok y t1 n1 := by
    unfold withinF at he
    split at he
    · cases he
    · exact he
  obtain ⟨s1, w1, s, n, hsn, hnr, hnk⟩ := hc _ _ _ _ _ _ hg hw hh he'
  obtain ⟨l, t2, n2, he2, hh⟩ := bind_eq h
  clear h
  have h := hh
  clear hh
  obtain ⟨_, hn2, _⟩ := redirF_good hl.good he2
  obtain ⟨r1, r2⟩ := redirF_fine hl.good (hw.sub s1.sub) he2
  subst hn2
  injection h with e1 e2 e3
  subst e1 e2 e3
  have hx : y = (n2.length : Int) - 1 := hl.last
  have hset : setRd n2 y l = s ++ [{ n with redirs := l }] := by rw [hx, hsn]; exact setRd_last s n l
  rw [hset]
  obtain ⟨seg, hseg⟩ := s1.pre
  have hmo := hl.more
  refine ⟨⟨fun t ht => s1.sub t (r1 t ht), ?_, fun hdf => ?_⟩, fun bs hb => ?_⟩
  · rcases List.eq_nil_or_concat seg with e | ⟨sg0, n0, e⟩
    · rw [hseg, e] at hmo
      simp at hmo
    · rw [List.concat_eq_append] at e
      rw [hsn, e, ← List.append_assoc] at hseg
      obtain ⟨e1, _⟩ := List.append_inj' hseg rfl
      exact ⟨sg0 ++ [{ n with redirs := l }], by rw [e1, List.append_assoc]⟩
  · have hdl : ∀ r ∈ l, digW r.wd = false := hdf { n with redirs := l } (by simp)
    have h1 := r2 hdl
    have hdn : DF n2 := by
      rw [hsn]
      intro m hm
      rw [List.mem_append, List.mem_singleton] at hm
      rcases hm with hm | rfl
      · exact hdf m (List.mem_append_left _ hm)
      · intro r hr; rw [hnr] at hr; cases hr
    have h2 := s1.wts hdn
    rw [hsn, wtN_app, wtN_one] at h2
    have h3 : wt { n with redirs := l } = wt n + plainN (l.map Rd.wd) := by
      have := wt_redirs n l
      rw [hnr, List.nil_append] at this
      exact this
    rw [wtN_app, wtN_one, h3]
    omega
  · obtain ⟨cs, c1, c2⟩ := w1 bs hb
    rw [hsn] at c1
    obtain ⟨bs0, b, q1, q2, q3, q4⟩ := c1.inv
    refine ⟨cs, ?_, ?_⟩
    · rw [q1]
      exact .snoc q2 (ndok_redirs l hnk q3) q4
    · rw [hsn] at c2
      simpa using c2
theorem fun_h {ts : List Tok} (h : funB ts = true) : ∃ t r, ts = t :: r ∧ t.k = 1 ∧ resB t.t = false := by
  unfold funB at h
  split at h
  · rename_i t u r
    simp only [Bool.and_eq_true] at h
    have h1 := h.1.1.1
    unfold namedB at h1
    rw [Bool.and_eq_true] at h1
    exact ⟨t, u :: r, rfl, eq_of_beq h1.1, by simpa using h.1.1.2⟩
  · cases h
theorem fun_fine {cmp : Drd} (hd : DecD 5 cmp) (hc : ∀ d, FineH (cmp d)) (d : Nat) (ts : List Tok) (ns : List Nd) (x : Int) (ts' : List Tok) (ns' : List Nd) (hg : Good ts) (hw : TW ts) (hf : funB ts = true) (h : funF cmp d ts ns = .ok x ts' ns') : Sg ts ns ts' ns' ∧ Wb ns ns' := by
  obtain ⟨t, r, rfl, hk, hr⟩ := fun_h hf
  unfold funF at h
  rw [List.tail_cons] at h
  have hgr := hg.tail (by omega)
  have hwr : TW r := hw.tail
  obtain ⟨u1, t1, n1, he1, hh⟩ := bind_eq h
  clear h
  have h := hh
  clear hh
  obtain ⟨hg1, _, hn1, _, _⟩ := need_ok hgr he1
  obtain ⟨s1, _⟩ := Sg.need hwr (.inr (by decide)) he1
  subst hn1
  obtain ⟨u2, t2, n2, he2, hh⟩ := bind_eq h
  clear h
  have h := hh
  clear hh
  obtain ⟨hg2, _, hn2, _, _⟩ := need_ok hg1 he2
  obtain ⟨s2, _⟩ := Sg.need (hwr.sub s1.sub) (.inr (by decide)) he2
  subst hn2
  have hb := breaks_good hg2
  have s3 := (s1.trans s2).trans (Sg.breaks (ns := n2) t2)
  split at h
  · rename_i hh
    obtain ⟨y, t3, n3, he3, hh⟩ := bind_eq h
    clear h
    have h := hh
    clear hh
    obtain ⟨s4, w4⟩ := hc _ _ _ _ _ _ hb.1 (hwr.sub s3.sub) hh he3
    have hl := hd _ _ _ _ _ _ hb.1 he3
    obtain ⟨rfl, rfl, rfl⟩ := lay_ok h
    have s5 := s3.trans s4
    have hne : t.t ≠ [] := ((hw t (List.mem_cons_self ..)).1 hk).1
    refine ⟨⟨fun u hu => List.mem_cons_of_mem _ (s5.sub u hu), ?_, fun hdf => ?_⟩, lay_wb (c := false) (.inr (.inr (.inl ⟨.inr rfl, rfl, hne⟩))) rfl fun bs hb => kids_fine hb w4 hl (Chn.nil _ _ _)⟩
    · obtain ⟨s, hs⟩ := s5.pre
      exact ⟨s ++ [_], by rw [hs, List.append_assoc]⟩
    · have h1 := s5.wts (fun m hm => hdf m (List.mem_append_left _ hm))
      have h2 : wt { kind := 15, name := nmH (t :: r), kids := [y] } = plainN [t.t] := by
        show _ + plainN (if t.t = [] then [] else [t.t]) + _ + _ + _ = _
        rw [if_neg hne]
        simp [plainN]
      rw [wtN_app, wtN_one, h2, cnt_word hk]
      omega
  · exact (wrong_ok h).elim
theorem cmd_fine {cmp : Drd} (hd : DecD 5 cmp) (hc : ∀ d, FineH (cmp d)) (d : Nat) : Fine (cmdF cmp d) := by
  intro ts ns x ts' ns' hg hw h
  unfold cmdF at h
  split at h
  · exact hc d _ _ _ _ _ hg hw (by assumption) h
  · split at h
    · rename_i hf
      unfold withinF at h
      split at h
      · cases h
      · exact fun_fine hd hc _ _ _ _ _ _ hg hw hf h
    · exact simF_fine _ _ _ _ _ hg hw h
theorem lst_fine {cmp : Drd} (hd : DecD 5 cmp) (hc : ∀ d, FineH (cmp d)) (d : Nat) : Fine (lstF cmp d) :=
  list_fine (item_dec (pipe_dec (cmd_dec hd d))) (item_fine (pipe_dec (cmd_dec hd d)) (pipe_fine (cmd_dec hd d) (cmd_fine hd hc d)))

end Go.Proofs.Ytgpfjcogaheopaa

end
section
/- The plain parser's nodes: compounds, lists, the whole. -/
namespace Go.Proofs.Ytgpfjcogaheopaa
open Lx
set_option maxRecDepth 100000

def Ends (ns : List Nd) : Prop := ∃ s n, ns = s ++ [n] ∧ n.redirs = [] ∧ n.kind ≠ 1
/-- Kids laid one behind the other. -/
def Ch (c : Bool) (ns ns1 : List Nd) (kids : List Int) : Prop := ∀ bs, WB ns bs → ∃ cs, WB ns1 (bs ++ cs) ∧ Chn c (bs ++ cs) kids ns1.length ns.length
theorem Ch.nil (c : Bool) (ns : List Nd) : Ch c ns ns [] := fun bs hb => ⟨[], by simpa using hb, by simpa using Chn.nil c bs ns.length⟩
theorem Ch.kid {c : Bool} {cc : Nat} {ns ns1 ns2 : List Nd} {kids : List Int} {t1 t2 : List Tok} {x : Int} (h : Ch c ns ns1 kids) (hw : Wb ns1 ns2) (hl : Left cc t1 ns1 x t2 ns2) : Ch c ns ns2 (kids ++ [x]) := by
  intro bs hb
  obtain ⟨cs, c1, c2⟩ := h bs hb
  obtain ⟨cs2, c3, c4⟩ := kids_fine c1 hw hl c2
  exact ⟨cs ++ cs2, by rw [← List.append_assoc]; exact c3, by rw [← List.append_assoc]; exact c4⟩
theorem Ch.skip {ns ns1 : List Nd} {kids : List Int} (h : Ch true ns ns1 kids) : Ch true ns ns1 (kids ++ [-1]) := by
  intro bs hb
  obtain ⟨cs, c1, c2⟩ := h bs hb
  exact ⟨cs, c1, c2.skip⟩
theorem lay_all {c : Bool} {ts t1 : List Tok} {ns n1 : List Nd} (n : Nd) (hsub : ∀ t ∈ t1, t ∈ ts) (hpre : ∃ s, n1 = ns ++ s) (hwt : DF n1 → wt n + wtN n1 + cnt t1 = wtN ns + cnt ts)
    (hok : NdOk n) (hc : (n.kind == 14) = c) (hr : n.redirs = []) (hk : n.kind ≠ 1) (hch : Ch c ns n1 n.kids) : Sg ts ns t1 (n1 ++ [n]) ∧ Wb ns (n1 ++ [n]) ∧ Ends (n1 ++ [n]) := by
  refine ⟨⟨hsub, ?_, fun hd => ?_⟩, lay_wb hok hc hch, ⟨n1, n, rfl, hr, hk⟩⟩
  · obtain ⟨s, rfl⟩ := hpre
    exact ⟨s ++ [n], by simp⟩
  · have := hwt (fun m hm => hd m (List.mem_append_left _ hm))
    rw [wtN_app, wtN_one]
    omega
theorem lay_sg {c : Bool} {ts t1 : List Tok} {ns n1 : List Nd} (n : Nd) (hs : Sg ts ns t1 n1) (h0 : wt n = 0)
    (hok : NdOk n) (hc : (n.kind == 14) = c) (hr : n.redirs = []) (hk : n.kind ≠ 1) (hch : Ch c ns n1 n.kids) : Sg ts ns t1 (n1 ++ [n]) ∧ Wb ns (n1 ++ [n]) ∧ Ends (n1 ++ [n]) :=
  lay_all n hs.sub hs.pre (fun hd => by have := hs.wts hd; omega) hok hc hr hk hch
theorem ifs_fine {lst : Rdr} (hd : Dec 2 lst) (hi : Fine lst) : ∀ (f : Nat) (ts : List Tok) (ns : List Nd) (x : Int) (ts' : List Tok) (ns' : List Nd), Good ts → TW ts → ifsF lst f ts ns = .ok x ts' ns' → Sg ts ns ts' ns' ∧ Wb ns ns' ∧ Ends ns' := by
  intro f
  induction f with
  | zero => intro ts ns x ts' ns' _ _ h; cases h
  | succ f ih =>
    intro ts ns x ts' ns' hg hw h
    rw [ifsF] at h
    obtain ⟨a, t1, n1, e1, hh⟩ := bind_eq h; clear h; have h := hh; clear hh
    have d1 := hd _ _ _ _ _ hg e1
    obtain ⟨s1, w1⟩ := hi _ _ _ _ _ hg hw e1
    obtain ⟨_, t2, n2, e2, hh⟩ := bind_eq h; clear h; have h := hh; clear hh
    obtain ⟨g2, _, _, _, _⟩ := need_ok d1.good e2
    obtain ⟨s2, hn2⟩ := Sg.need (hw.sub s1.sub) (.inl (by decide)) e2
    subst hn2
    have s12 := s1.trans s2
    obtain ⟨b, t3, n3, e3, hh⟩ := bind_eq h; clear h; have h := hh; clear hh
    have d3 := hd _ _ _ _ _ g2 e3
    obtain ⟨s3, w3⟩ := hi _ _ _ _ _ g2 (hw.sub s12.sub) e3
    have s13 := s12.trans s3
    have c2 := ((Ch.nil false ns).kid w1 d1).kid w3 d3
    have hw3 : TW t3 := hw.sub s13.sub
    split at h
    · rename_i hel
      have g4 := is_tail d3.good hel
      have s4 := s13.trans (Sg.is hw3 (.inl (by decide)) hel)
      obtain ⟨c, t5, n5, e5, hh⟩ := bind_eq h; clear h; have h := hh; clear hh
      have d5 := ifs_dec hd _ _ _ _ _ _ g4.1 e5
      obtain ⟨s5, w5, _⟩ := ih _ _ _ _ _ g4.1 (hw.sub s4.sub) e5
      obtain ⟨rfl, rfl, rfl⟩ := lay_ok h
      exact lay_sg (c := false) _ (s4.trans s5) (wt_kids _ _) (.inr (.inr (.inr (.inr (.inr (.inr (.inl ⟨rfl, by simp, by simp, rfl⟩))))))) rfl rfl (by intro h1; have h2 : (10 : Int) = 1 := h1; omega) (c2.kid w5 d5)
    · split at h
      · rename_i hel
        have g4 := is_tail d3.good hel
        have s4 := s13.trans (Sg.is hw3 (.inl (by decide)) hel)
        obtain ⟨c, t5, n5, e5, hh⟩ := bind_eq h; clear h; have h := hh; clear hh
        have d5 := hd _ _ _ _ _ g4.1 e5
        obtain ⟨s5, w5⟩ := hi _ _ _ _ _ g4.1 (hw.sub s4.sub) e5
        have s45 := s4.trans s5
        obtain ⟨_, t6, n6, e6, hh⟩ := bind_eq h; clear h; have h := hh; clear hh
        obtain ⟨s6, hn6⟩ := Sg.need (hw.sub s45.sub) (.inl (by decide)) e6
        subst hn6
        obtain ⟨rfl, rfl, rfl⟩ := lay_ok h
        exact lay_sg (c := false) _ (s45.trans s6) (wt_kids _ _) (.inr (.inr (.inr (.inr (.inr (.inr (.inl ⟨rfl, by simp, by simp, rfl⟩))))))) rfl rfl (by intro h1; have h2 : (10 : Int) = 1 := h1; omega) (c2.kid w5 d5)
      · obtain ⟨_, t6, n6, e6, hh⟩ := bind_eq h; clear h; have h := hh; clear hh
        obtain ⟨s6, hn6⟩ := Sg.need hw3 (.inl (by decide)) e6
        subst hn6
        obtain ⟨rfl, rfl, rfl⟩ := lay_ok h
        exact lay_sg (c := false) _ (s13.trans s6) (wt_kids _ _) (.inr (.inr (.inr (.inr (.inr (.inr (.inl ⟨rfl, by simp, by simp, rfl⟩))))))) rfl rfl (by intro h1; have h2 : (10 : Int) = 1 := h1; omega) c2
theorem words_fine : ∀ (ts : List Tok), (∀ t ∈ wordsR ts, t ∈ ts) ∧ plainN (wordsT ts) + cnt (wordsR ts) = cnt ts
  | [] => ⟨fun _ h => h, rfl⟩
  | t :: r => by
    obtain ⟨h1, h2⟩ := words_fine r
    unfold wordsR wordsT
    split
    · rename_i hk
      refine ⟨fun u hu => List.mem_cons_of_mem _ (h1 u hu), ?_⟩
      rw [cnt_word hk, show t.t :: wordsT r = [t.t] ++ wordsT r from rfl, plainN_app]
      omega
    · exact ⟨fun _ h => h, by simp [plainN]⟩
theorem named_k {t : Tok} (h : namedB t = true) : t.k = 1 := by
  unfold namedB at h
  rw [Bool.and_eq_true] at h
  exact eq_of_beq h.1
theorem wt_for (nm : List UInt8) (b : Bool) (l : List (List UInt8)) (kids : List Int) (h : nm ≠ []) : wt { kind := 13, name := nm, inn := b, words := l, kids := kids } = plainN [nm] + plainN l := by
  unfold wt
  rw [if_neg h]
  simp [plainN]
theorem take_cnt {ts : List Tok} {s : List UInt8} (hw : TW ts) (hs : resB s = true ∨ s ∈ sgs) : cnt (takeT ts s) = cnt ts := by
  have := (Sg.take (ns := []) hw hs).wts (fun _ h => by cases h)
  simpa using this
theorem breaks_cnt (ts : List Tok) : cnt (breaksF ts) = cnt ts := by
  have := (Sg.breaks (ns := []) ts).wts (fun _ h => by cases h)
  simpa using this
theorem need_cnt {ts : List Tok} {ns : List Nd} {s : List UInt8} {u : Unit} {ts' : List Tok} {ns' : List Nd} (hw : TW ts) (hs : resB s = true ∨ s ∈ sgs) (h : needR s ts ns = .ok u ts' ns') : cnt ts' = cnt ts := by
  unfold needR at h
  split at h
  · injection h with _ h1 h2
    subst h1
    exact is_cnt hw hs (by assumption)
  · exact (wrong_ok h).elim
theorem fors_fine {ts : List Tok} {ns : List Nd} {n : Nd} {ts' : List Tok} {ns' : List Nd} (hg : Good ts) (hw : TW ts) (h : forsF ts ns = .ok n ts' ns') :
    (∀ t ∈ ts', t ∈ ts) ∧ n.kind = 13 ∧ n.name ≠ [] ∧ n.redirs = [] ∧ n.kids = [] ∧ ∀ kids, wt { n with kids := kids } + cnt ts' = cnt ts := by
  obtain ⟨t, r, rfl⟩ := hg.ne
  unfold forsF at h
  simp only [] at h
  split at h
  · rename_i hnm
    have hk := named_k hnm
    have hne : t.t ≠ [] := ((hw t (List.mem_cons_self ..)).1 hk).1
    have sb := Sg.breaks (ns := ([] : List Nd)) r
    have hwb : TW (breaksF r) := hw.tail.sub sb.sub
    have cb := breaks_cnt r
    split at h
    · rename_i hin
      have c1 := is_cnt hwb (.inl (by decide)) hin
      have wf := words_fine (breaksF r).tail
      have hwu : TW (wordsR (breaksF r).tail) := hwb.tail.sub wf.1
      split at h
      · rename_i hs
        have c2 : cnt (wordsR (breaksF r).tail).tail = cnt (wordsR (breaksF r).tail) := by
          rw [Bool.or_eq_true] at hs
          rcases hs with hs | hs
          · exact is_cnt hwu (.inr (by decide)) hs
          · exact is_cnt hwu (.inr (by decide)) hs
        have c3 := breaks_cnt (wordsR (breaksF r).tail).tail
        have sb2 := Sg.breaks (ns := ([] : List Nd)) (wordsR (breaksF r).tail).tail
        have hw2 : TW (breaksF (wordsR (breaksF r).tail).tail) := hwu.tail.sub sb2.sub
        obtain ⟨_, t2, n2, e2, hh⟩ := bind_eq h; clear h; have h := hh; clear hh
        have c4 := need_cnt hw2 (.inl (by decide)) e2
        obtain ⟨s2, hn2⟩ := Sg.need hw2 (.inl (by decide)) e2
        injection h with h1 h2 h3
        subst h1 h2
        refine ⟨fun u hu => List.mem_cons_of_mem _ (sb.sub u (List.mem_of_mem_tail (wf.1 u (List.mem_of_mem_tail (sb2.sub u (s2.sub u hu)))))), rfl, hne, rfl, rfl, fun kids => ?_⟩
        show wt { kind := 13, name := t.t, inn := true, words := wordsT (breaksF r).tail, kids := kids } + _ = _
        rw [wt_for _ _ _ _ hne, cnt_word hk]
        omega
      · exact (wrong_ok h).elim
    · have c1 := take_cnt (s := sSemi) hwb (.inr (by decide))
      have st := Sg.take (ns := ([] : List Nd)) (s := sSemi) hwb (.inr (by decide))
      have c3 := breaks_cnt (takeT (breaksF r) sSemi)
      have sb2 := Sg.breaks (ns := ([] : List Nd)) (takeT (breaksF r) sSemi)
      have hw2 : TW (breaksF (takeT (breaksF r) sSemi)) := (hwb.sub st.sub).sub sb2.sub
      obtain ⟨_, t2, n2, e2, hh⟩ := bind_eq h; clear h; have h := hh; clear hh
      have c4 := need_cnt hw2 (.inl (by decide)) e2
      obtain ⟨s2, hn2⟩ := Sg.need hw2 (.inl (by decide)) e2
      injection h with h1 h2 h3
      subst h1 h2
      refine ⟨fun u hu => List.mem_cons_of_mem _ (sb.sub u (st.sub u (sb2.sub u (s2.sub u hu)))), rfl, hne, rfl, rfl, fun kids => ?_⟩
      show wt { kind := 13, name := t.t, inn := false, words := [], kids := kids } + _ = _
      rw [wt_for _ _ _ _ hne, cnt_word hk]
      simp only [plainN, List.filter_nil, List.length_nil]
      omega
  · exact (wrong_ok h).elim
theorem any_fine {ts : List Tok} {ns : List Nd} {s : List UInt8} {ts' : List Tok} {ns' : List Nd} (h : anyR ts ns = .ok s ts' ns') : (∀ t ∈ ts', t ∈ ts) ∧ plainN [s] + cnt ts' = cnt ts := by
  unfold anyR at h
  split at h
  · rename_i t r
    split at h
    · rename_i hk
      injection h with h1 h2 h3
      subst h1 h2
      exact ⟨fun _ h => List.mem_cons_of_mem _ h, (cnt_word hk).symm⟩
    · exact (wrong_ok h).elim
  · cases h
theorem pats_fine : ∀ (f : Nat) (acc : List (List UInt8)) (ts : List Tok) (ns : List Nd) (l : List (List UInt8)) (ts' : List Tok) (ns' : List Nd), Good ts → TW ts → patsL f acc ts ns = .ok l ts' ns' → (∀ t ∈ ts', t ∈ ts) ∧ plainN l + cnt ts' = plainN acc + cnt ts := by
  intro f
  induction f with
  | zero => intro acc ts ns l ts' ns' _ _ h; cases h
  | succ f ih =>
    intro acc ts ns l ts' ns' hg hw h
    rw [patsL] at h
    split at h
    · rename_i hb
      have g1 := is_tail hg hb
      have c1 := is_cnt hw (.inr (by decide)) hb
      obtain ⟨s, t1, n1, e1, hh⟩ := bind_eq h; clear h; have h := hh; clear hh
      obtain ⟨q1, q2⟩ := any_fine e1
      obtain ⟨g2, _, _, _⟩ := any_ok g1.1 e1
      have hw1 : TW t1 := hw.tail.sub q1
      obtain ⟨q3, q4⟩ := ih _ _ _ _ _ _ g2 hw1 h
      rw [plainN_app] at q4
      exact ⟨fun u hu => List.mem_of_mem_tail (q1 u (q3 u hu)), by omega⟩
    · injection h with h1 h2 h3
      subst h1 h2
      exact ⟨fun _ h => h, rfl⟩
theorem par_cnt {ts : List Tok} (hw : TW ts) : (∀ t ∈ (if sgnB ts sPar = true then ts.tail else ts), t ∈ ts) ∧ cnt (if sgnB ts sPar = true then ts.tail else ts) = cnt ts := by
  split
  · rename_i h
    exact ⟨fun _ h => List.mem_of_mem_tail h, is_cnt (s := sPar) hw (.inr (by decide)) (by unfold isB; rw [h]; rfl)⟩
  · exact ⟨fun _ h => h, rfl⟩
theorem wt_pats (n : Nd) (p : List (List UInt8)) (k : Int) : wt { n with pats := n.pats ++ [p], kids := n.kids ++ [k] } = wt n + plainN p := by
  unfold wt
  simp only [List.map_append, List.sum_append, List.map_cons, List.map_nil, List.sum_cons, List.sum_nil]
  omega
theorem case_fine {lst : Rdr} (hd : Dec 2 lst) (hi : Fine lst) : ∀ (f : Nat) (n : Nd) (ts : List Tok) (ns : List Nd) (m : Nd) (ts' : List Tok) (ns' : List Nd), Good ts → TW ts → caseL lst f n ts ns = .ok m ts' ns' →
    (∀ t ∈ ts', t ∈ ts) ∧ (∃ s, ns' = ns ++ s) ∧ (DF ns' → wt m + wtN ns' + cnt ts' = wt n + wtN ns + cnt ts) ∧ (m.kind = n.kind ∧ m.name = n.name ∧ m.redirs = n.redirs ∧ (n.kids.length = n.pats.length → m.kids.length = m.pats.length)) ∧ (∀ ns0, Ch true ns0 ns n.kids → Ch true ns0 ns' m.kids) := by
  intro f
  induction f with
  | zero => intro n ts ns m ts' ns' _ _ h; cases h
  | succ f ih =>
    intro n ts ns m ts' ns' hg hw h
    rw [caseL] at h
    split at h
    · injection h with h1 h2 h3
      subst h1 h2 h3
      exact ⟨fun _ h => h, ⟨[], by simp⟩, fun _ => rfl, ⟨rfl, rfl, rfl, id⟩, fun _ h => h⟩
    · have gp := par_good hg
      have pc := par_cnt hw
      have hwp : TW (if sgnB ts sPar = true then ts.tail else ts) := hw.sub pc.1
      obtain ⟨s, t1, n1, e1, hh⟩ := bind_eq h; clear h; have h := hh; clear hh
      obtain ⟨g1, _, hn1, _⟩ := any_ok gp.1 e1
      subst hn1
      obtain ⟨q1, q2⟩ := any_fine e1
      have hw1 : TW t1 := hwp.sub q1
      obtain ⟨p, t2, n2, e2, hh⟩ := bind_eq h; clear h; have h := hh; clear hh
      obtain ⟨g2, _, hn2, _⟩ := pats_ok _ _ _ _ _ _ _ g1 e2
      subst hn2
      obtain ⟨q3, q4⟩ := pats_fine _ _ _ _ _ _ _ g1 hw1 e2
      have hw2 : TW t2 := hw1.sub q3
      obtain ⟨_, t3, n3, e3, hh⟩ := bind_eq h; clear h; have h := hh; clear hh
      obtain ⟨g3, _, _, _, _⟩ := need_ok g2 e3
      have c3 := need_cnt hw2 (.inr (by decide)) e3
      obtain ⟨s3, hn3⟩ := Sg.need hw2 (.inr (by decide)) e3
      subst hn3
      have hw3 : TW t3 := hw2.sub s3.sub
      obtain ⟨x, t4, n4, e4, hh⟩ := bind_eq h; clear h; have h := hh; clear hh
      have body : Good t4 ∧ Sg t3 n3 t4 n4 ∧ (∀ ns0, Ch true ns0 n3 n.kids → Ch true ns0 n4 (n.kids ++ [x])) := by
        have hb := breaks_good g3
        have sb := Sg.breaks (ns := n3) t3
        split at e4
        · have d := hd _ _ _ _ _ hb.1 e4
          obtain ⟨s4, w4⟩ := hi _ _ _ _ _ hb.1 (hw3.sub sb.sub) e4
          exact ⟨d.good, sb.trans s4, fun ns0 hc => hc.kid w4 d⟩
        · injection e4 with h1 h2 h3
          subst h1 h2 h3
          exact ⟨hb.1, sb, fun ns0 hc => hc.skip⟩
      obtain ⟨g4, s4, b4⟩ := body
      have hw4 : TW t4 := hw3.sub s4.sub
      have hsub4 : ∀ u ∈ t4, u ∈ ts := fun u hu => pc.1 u (q1 u (q3 u (s3.sub u (s4.sub u hu))))
      have hwt4 : DF n4 → wtN n4 + cnt t4 + plainN p = wtN n3 + cnt ts := fun hdf => by
        have := s4.wts hdf
        have := pc.2
        omega
      split at h
      · rename_i hs2
        have g5 := is_tail g4 hs2
        have g6 := breaks_good g5.1
        have c5 := is_cnt hw4 (.inr (by decide)) hs2
        have c6 := breaks_cnt t4.tail
        have sb6 := Sg.breaks (ns := n4) t4.tail
        obtain ⟨r1, ⟨sg, r2⟩, r3, ⟨r4, r5, r6, r7⟩, r8⟩ := ih _ _ _ _ _ _ g6.1 (hw4.tail.sub sb6.sub) h
        obtain ⟨sg4, hsg4⟩ := s4.pre
        refine ⟨fun u hu => hsub4 u (List.mem_of_mem_tail (sb6.sub u (r1 u hu))), ⟨sg4 ++ sg, by rw [r2, hsg4]; simp⟩, fun hdf => ?_, ⟨r4, r5, r6, fun hl => r7 (by simp [hl])⟩, fun ns0 hc => r8 ns0 (b4 ns0 hc)⟩
        have h1 := r3 hdf
        have h2 := hwt4 (by intro u hu; exact hdf u (by rw [r2]; exact List.mem_append_left _ hu))
        rw [wt_pats] at h1
        omega
      · injection h with h1 h2 h3
        subst h1 h2 h3
        refine ⟨hsub4, s4.pre, fun hdf => ?_, ⟨rfl, rfl, rfl, fun hl => by simp [hl]⟩, b4⟩
        have h2 := hwt4 hdf
        rw [wt_pats]
        omega
theorem caseF_fine {lst : Rdr} (hd : Dec 2 lst) (hi : Fine lst) {ts : List Tok} {ns : List Nd} {m : Nd} {ts' : List Tok} {ns' : List Nd} (hg : Good ts) (hw : TW ts) (h : caseF lst ts ns = .ok m ts' ns') :
    (∀ t ∈ ts', t ∈ ts) ∧ (∃ s, ns' = ns ++ s) ∧ (DF ns' → wt m + wtN ns' + cnt ts' = wtN ns + cnt ts) ∧ (m.kind = 14 ∧ m.name = [] ∧ m.redirs = [] ∧ m.kids.length = m.pats.length) ∧ Ch true ns ns' m.kids := by
  unfold caseF at h
  obtain ⟨s, t1, n1, e1, hh⟩ := bind_eq h; clear h; have h := hh; clear hh
  obtain ⟨g1, _, hn1, _⟩ := any_ok hg e1
  subst hn1
  obtain ⟨q1, q2⟩ := any_fine e1
  have hw1 : TW t1 := hw.sub q1
  have hb := breaks_good g1
  have sb := Sg.breaks (ns := n1) t1
  have cb := breaks_cnt t1
  obtain ⟨_, t3, n3, e3, hh⟩ := bind_eq h; clear h; have h := hh; clear hh
  obtain ⟨g3, _, _, _, _⟩ := need_ok hb.1 e3
  have c3 := need_cnt (hw1.sub sb.sub) (.inl (by decide)) e3
  obtain ⟨s3, hn3⟩ := Sg.need (hw1.sub sb.sub) (.inl (by decide)) e3
  subst hn3
  have hw3 : TW t3 := (hw1.sub sb.sub).sub s3.sub
  have hb3 := breaks_good g3
  have sb3 := Sg.breaks (ns := n3) t3
  have cb3 := breaks_cnt t3
  obtain ⟨n, t4, n4, e4, hh⟩ := bind_eq h; clear h; have h := hh; clear hh
  obtain ⟨g4, _, _, _⟩ := case_loop hd _ _ _ _ _ _ _ hb3.1 e4
  obtain ⟨r1, r2, r3, ⟨r4, r5, r6, r7⟩, r8⟩ := case_fine hd hi _ _ _ _ _ _ _ hb3.1 (hw3.sub sb3.sub) e4
  have hw4 : TW t4 := (hw3.sub sb3.sub).sub r1
  obtain ⟨_, t5, n5, e5, hh⟩ := bind_eq h; clear h; have h := hh; clear hh
  have c5 := need_cnt hw4 (.inl (by decide)) e5
  obtain ⟨s5, hn5⟩ := Sg.need hw4 (.inl (by decide)) e5
  subst hn5
  injection h with h1 h2 h3
  subst h1 h2 h3
  refine ⟨fun u hu => q1 u (sb.sub u (s3.sub u (sb3.sub u (r1 u (s5.sub u hu))))), r2, fun hdf => ?_, ⟨r4, r5, r6, r7 rfl⟩, r8 _ (Ch.nil true _)⟩
  have h1 := r3 hdf
  have h2 : wt { kind := 14, words := [s] } = plainN [s] := by simp [wt, plainN]
  rw [h2] at h1
  omega

/-! ### what stands in a compound -/
theorem coreS_fine {lst : Rdr} (hd : Dec 2 lst) (hi : Fine lst) {s : List UInt8} (hs : s = sPar ∨ s ∈ cmpW) {ts : List Tok} {ns : List Nd} {x : Int} {ts' : List Tok} {ns' : List Nd} (hg : Good ts) (hw : TW ts) (h : coreS lst s ts ns = .ok x ts' ns') : Sg ts ns ts' ns' ∧ Wb ns ns' ∧ Ends ns' := by
  have one : ∀ (kd : Int) (c : List UInt8), (kd = 8 ∨ kd = 9) → (resB c = true ∨ c ∈ sgs) → ((lst ts ns).bind fun x ts ns => (needR c ts ns).bind fun _ ts ns => layR { kind := kd, kids := [x] } ts ns) = .ok x ts' ns' → Sg ts ns ts' ns' ∧ Wb ns ns' ∧ Ends ns' := by
    intro kd c hkd hc h
    obtain ⟨y, t1, n1, e1, hh⟩ := bind_eq h; clear h; have h := hh; clear hh
    have d1 := hd _ _ _ _ _ hg e1
    obtain ⟨s1, w1⟩ := hi _ _ _ _ _ hg hw e1
    obtain ⟨_, t2, n2, e2, hh⟩ := bind_eq h; clear h; have h := hh; clear hh
    obtain ⟨s2, hn2⟩ := Sg.need (hw.sub s1.sub) hc e2
    subst hn2
    obtain ⟨rfl, rfl, rfl⟩ := lay_ok h
    exact lay_sg (c := false) _ (s1.trans s2) (wt_kids _ _) (.inr (.inl ⟨by rcases hkd with e | e; exact .inr (.inr (.inl e)); exact .inr (.inr (.inr e)), rfl, rfl⟩)) (by rcases hkd with e | e <;> (subst e; rfl)) rfl (by intro h1; have h2 : kd = 1 := h1; omega) ((Ch.nil false ns).kid w1 d1)
  unfold coreS at h
  split at h
  · exact one 8 wClose (.inl rfl) (.inl (by decide)) h
  · rename_i h1
    split at h
    · exact one 9 sRap (.inr rfl) (.inr (by decide)) h
    · rename_i h2
      split at h
      · exact ifs_fine hd hi _ _ _ _ _ _ hg hw h
      · rename_i h3
        split at h
        · obtain ⟨n, t1, n1, e1, hh⟩ := bind_eq h; clear h; have h := hh; clear hh
          obtain ⟨g1, _, hn1⟩ := fors_ok hg e1
          subst hn1
          obtain ⟨f1, f2, f3, f4, f5, f6⟩ := fors_fine hg hw e1
          have hw1 : TW t1 := hw.sub f1
          obtain ⟨y, t2, n2, e2, hh⟩ := bind_eq h; clear h; have h := hh; clear hh
          have d2 := hd _ _ _ _ _ g1 e2
          obtain ⟨s2, w2⟩ := hi _ _ _ _ _ g1 hw1 e2
          obtain ⟨_, t3, n3, e3, hh⟩ := bind_eq h; clear h; have h := hh; clear hh
          obtain ⟨s3, hn3⟩ := Sg.need (hw1.sub s2.sub) (.inl (by decide)) e3
          subst hn3
          obtain ⟨rfl, rfl, rfl⟩ := lay_ok h
          have s23 := s2.trans s3
          have hk14 : (({ n with kids := [y] } : Nd).kind == 14) = false := by show (n.kind == 14) = false; rw [f2]; rfl
          refine lay_all (c := false) { n with kids := [y] } (fun u hu => f1 u (s23.sub u hu)) s23.pre (fun hdf => ?_) (.inr (.inr (.inl ⟨.inl f2, rfl, f3⟩))) hk14 f4 (by show n.kind ≠ 1; omega) ((Ch.nil false _).kid w2 d2)
          have q1 := s23.wts hdf
          have q2 := f6 [y]
          omega
        · rename_i h4
          split at h
          · obtain ⟨n, t1, n1, e1, hh⟩ := bind_eq h; clear h; have h := hh; clear hh
            obtain ⟨r1, r2, r3, ⟨r4, r5, r6, r7⟩, r8⟩ := caseF_fine hd hi hg hw e1
            obtain ⟨rfl, rfl, rfl⟩ := lay_ok h
            exact lay_all (c := true) n r1 r2 r3 (.inr (.inr (.inr (.inr (.inr (.inr (.inr ⟨r4, r7, r5⟩))))))) (by rw [r4]; rfl) r6 (by omega) r8
          · rename_i h5
            have hkd : (if s = wUntil then (12 : Int) else if s = wWhile then 11 else 0) = 12 ∨ (if s = wUntil then (12 : Int) else if s = wWhile then 11 else 0) = 11 := by
              by_cases hu : s = wUntil
              · rw [if_pos hu]; exact .inl rfl
              · rw [if_neg hu]
                by_cases hwh : s = wWhile
                · rw [if_pos hwh]; exact .inr rfl
                · exfalso
                  rcases hs with e | e
                  · exact h2 e
                  · simp only [cmpW, List.mem_cons, List.not_mem_nil, or_false] at e
                    rcases e with e | e | e | e | e | e
                    · exact h1 e
                    · exact h3 e
                    · exact hwh e
                    · exact hu e
                    · exact h4 e
                    · exact h5 e
            obtain ⟨kd, hkd'⟩ : ∃ kd, (if s = wUntil then (12 : Int) else if s = wWhile then 11 else 0) = kd := ⟨_, rfl⟩
            rw [hkd'] at hkd h
            obtain ⟨y, t1, n1, e1, hh⟩ := bind_eq h; clear h; have h := hh; clear hh
            have d1 := hd _ _ _ _ _ hg e1
            obtain ⟨s1, w1⟩ := hi _ _ _ _ _ hg hw e1
            obtain ⟨_, t2, n2, e2, hh⟩ := bind_eq h; clear h; have h := hh; clear hh
            obtain ⟨g2, _, _, _, _⟩ := need_ok d1.good e2
            obtain ⟨s2, hn2⟩ := Sg.need (hw.sub s1.sub) (.inl (by decide)) e2
            subst hn2
            have s12 := s1.trans s2
            obtain ⟨z, t3, n3, e3, hh⟩ := bind_eq h; clear h; have h := hh; clear hh
            have d3 := hd _ _ _ _ _ g2 e3
            obtain ⟨s3, w3⟩ := hi _ _ _ _ _ g2 (hw.sub s12.sub) e3
            have s13 := s12.trans s3
            obtain ⟨_, t4, n4, e4, hh⟩ := bind_eq h; clear h; have h := hh; clear hh
            obtain ⟨s4, hn4⟩ := Sg.need (hw.sub s13.sub) (.inl (by decide)) e4
            subst hn4
            obtain ⟨rfl, rfl, rfl⟩ := lay_ok h
            exact lay_sg (c := false) _ (s13.trans s4) (wt_kids _ _) (.inr (.inr (.inr (.inl ⟨by rcases hkd with e | e; exact .inr (.inr (.inr e)); exact .inr (.inr (.inl e)), rfl, rfl⟩)))) (by rcases hkd with e | e <;> (subst e; rfl)) rfl (by intro h1; have h2 : kd = 1 := h1; omega) (((Ch.nil false ns).kid w1 d1).kid w3 d3)
theorem cmp_cases {t : Tok} (h : cmpB t = true) : (t.t = sPar ∨ t.t ∈ cmpW) ∧ (t.k == 1 && !resB t.t) = false := by
  unfold cmpB at h
  rw [Bool.or_eq_true, Bool.and_eq_true, Bool.and_eq_true] at h
  rcases h with ⟨h1, h2⟩ | ⟨h1, h2⟩
  · refine ⟨.inl (eq_of_beq h2), ?_⟩
    rw [eq_of_beq h1]; rfl
  · have hm : t.t ∈ cmpW := by simpa using h2
    refine ⟨.inr hm, ?_⟩
    have hr : ∀ s ∈ cmpW, resB s = true := by decide
    rw [hr _ hm]; simp
theorem coreF_fine {lst : Drd} (hd : DecD 2 lst) (hi : ∀ d, Fine (lst d)) (d : Nat) : FineC (coreF lst d) := by
  intro ts ns x ts' ns' hg hw hh h
  obtain ⟨t, r, rfl⟩ := hg.ne
  unfold coreF at h
  simp only [] at h
  split at h
  · cases h
  · rename_i hk
    obtain ⟨c1, c2⟩ := cmp_cases (t := t) hh
    obtain ⟨s1, w1, e1⟩ := coreS_fine (hd d) (hi d) c1 (hg.tail hk) hw.tail h
    refine ⟨⟨fun u hu => List.mem_cons_of_mem _ (s1.sub u hu), s1.pre, fun hdf => ?_⟩, w1, e1⟩
    rw [s1.wts hdf, cnt_no c2]
theorem core_fine : ∀ f d, FineC (core f d)
  | 0, _ => fun _ _ _ _ _ _ _ _ h => by cases h
  | f + 1, d => coreF_fine (lst_dec (cmp_dec (core_dec f))) (lst_fine (cmp_dec (core_dec f)) (cmp_fine (core_dec f) (core_fine f))) d
theorem lst_fine_all (f d : Nat) : Fine (lst f d) := lst_fine (cmp_dec (core_dec f)) (cmp_fine (core_dec f) (core_fine f)) d

/-! ### the whole -/
theorem good_end {t : Tok} {r : List Tok} (h : Good (t :: r)) (hk : t.k = 4) : r = [] := by
  obtain ⟨p, e, hp, he, ha⟩ := h
  cases p with
  | nil => simp at hp; exact hp.2
  | cons q p =>
    simp at hp
    exact absurd (hp.1 ▸ hk) (ha q (List.mem_cons_self ..))
theorem cnt_end {t : Tok} (hk : t.k = 4) : cnt [t] = 0 := by
  rw [cnt_no (by rw [hk]; rfl)]
  rfl
theorem Toks.tw {L : Nat} {ts : List Tok} (h : Toks L ts) : TW ts := by
  intro t ht
  rcases h.w t ht with ⟨h1, h2, h3⟩ | hw
  · exact ⟨fun e => by omega, fun e => by omega⟩
  · refine ⟨fun e => ?_, fun e => ?_⟩
    · obtain ⟨c, r, h1, h2⟩ := hw.wd e
      refine ⟨by rw [h1]; simp, fun hm => ?_⟩
      rw [h1] at hm
      have h3 : ∀ s ∈ sgs, ∀ c r, s = c :: r → isIn stopB c = true := by
        have : ∀ s ∈ sgs, (match s with | c :: _ => isIn stopB c | [] => true) = true := by decide
        intro s hs c r he
        have := this s hs
        rw [he] at this
        exact this
      rw [h3 _ hm c r rfl] at h2
      cases h2
    · obtain ⟨c, h1, h2, h3⟩ := hw.io e
      rw [h1]
      exact decide_eq_true ⟨h2, h3⟩
/-- What a whole text's nodes are. -/
structure Whole (ts : List Tok) (l : List Nd) : Prop where
  few : l.length ≤ 300
  wb : ∃ bs, WB l bs ∧ (l = [] ∨ bs.getD (l.length - 1) 0 = 0)
  wts : DF l → wtN l = cnt ts
theorem parse_whole {ts : List Tok} (hg : Good ts) (hw : TW ts) (he : (parseT ts).e = 0) (hb : ∀ t r a e, breaksF ts = t :: r → lst ts.length 0 (t :: r) [] = .bad a e → e ≠ 0) : Whole ts (parseT ts).ns := by
  have none : cnt ts = 0 → Whole ts [] := fun h => ⟨by simp, ⟨[], .nil, .inl rfl⟩, fun _ => h.symm⟩
  have cb := breaks_cnt ts
  have gb := breaks_good hg
  have sb := Sg.breaks (ns := ([] : List Nd)) ts
  obtain ⟨t, r, hbr⟩ := gb.1.ne
  unfold parseT at he ⊢
  rw [hbr] at he cb gb sb ⊢
  simp only [] at he ⊢
  by_cases hk : t.k = 4
  · rw [if_pos hk]
    refine none ?_
    rw [← cb, good_end gb.1 hk, cnt_end hk]
  · rw [if_neg hk] at he ⊢
    cases hl : lst ts.length 0 (t :: r) [] with
    | bad a e =>
      rw [hl] at he
      exact absurd he (hb t r a e hbr hl)
    | ok x t1 n1 =>
      have d := lst_left ts.length 0 _ _ _ _ _ gb.1 hl
      obtain ⟨s1, w1⟩ := lst_fine_all ts.length 0 _ _ _ _ _ gb.1 (hw.sub sb.sub) hl
      obtain ⟨u, q, rfl⟩ := d.good.ne
      rw [hl] at he
      simp only [] at he ⊢
      by_cases hu : u.k = 4
      · have hu' : ¬ u.k ≠ 4 := fun h => h hu
        rw [if_neg hu'] at he ⊢
        by_cases h3 : 300 < n1.length
        · rw [if_pos h3] at he
          cases he
        · rw [if_neg h3]
          have hq := good_end d.good hu
          subst hq
          refine ⟨by show n1.length ≤ 300; omega, ?_, fun hdf => ?_⟩
          · obtain ⟨cs, c1, c2⟩ := w1 [] .nil
            exact ⟨cs, by simpa using c1, .inr (by simpa using c2)⟩
          · have q1 := s1.wts hdf
            rw [cnt_end hu] at q1
            simp only [wtN, List.map_nil, List.sum_nil] at q1
            show (n1.map wt).sum = _
            omega
      · rw [if_pos hu] at he
        cases he

end Go.Proofs.Ytgpfjcogaheopaa

end
section
/- Where the plain parser says no: a place in the text, and an error. -/
namespace Go.Proofs.Ytgpfjcogaheopaa
open Lx
set_option maxRecDepth 100000

structure T3 (L n : Nat) (ts : List Tok) : Prop where
  good : Good ts
  tw : TW ts
  at_ : ∀ t ∈ ts, t.a ≤ L
  len : ts.length ≤ n
def Bad (L : Nat) (a e : Int) : Prop := 0 ≤ a ∧ a ≤ L ∧ e ≠ 0
def Bd (L n : Nat) (f : Rdr) : Prop := ∀ ts ns a e, T3 L n ts → f ts ns = .bad a e → Bad L a e
def BdH (L n : Nat) (f : Rdr) : Prop := ∀ ts ns a e, T3 L n ts → cmpH ts = true → f ts ns = .bad a e → Bad L a e
theorem bind_bad {α β : Type} {r : PR α} {f : α → List Tok → List Nd → PR β} {a e : Int} (h : r.bind f = .bad a e) : r = .bad a e ∨ ∃ x ts ns, r = .ok x ts ns ∧ f x ts ns = .bad a e := by
  cases r with
  | ok x ts ns => exact .inr ⟨x, ts, ns, rfl, h⟩
  | bad a1 e1 =>
    have h1 : (PR.bad a1 e1 : PR β) = .bad a e := h
    injection h1 with h1 h2
    subst h1 h2
    exact .inl rfl
variable {L n : Nat}
theorem T3.step {ts t1 : List Tok} (h : T3 L n ts) (hg : Good t1) (hs : ∀ t ∈ t1, t ∈ ts) (hl : t1.length ≤ ts.length) : T3 L n t1 := ⟨hg, h.tw.sub hs, fun t ht => h.at_ t (hs t ht), Nat.le_trans hl h.len⟩
theorem T3.is {ts : List Tok} {s : List UInt8} (h : T3 L n ts) (hb : isB ts s = true) : T3 L n ts.tail ∧ ts.tail.length + 1 = ts.length := by
  have := is_tail h.good hb
  exact ⟨h.step this.1 (fun _ h => List.mem_of_mem_tail h) (by omega), this.2⟩
theorem T3.take {ts : List Tok} {s : List UInt8} (h : T3 L n ts) : T3 L n (takeT ts s) ∧ (takeT ts s).length ≤ ts.length := by
  unfold takeT
  split
  · have := h.is (by assumption)
    exact ⟨this.1, by omega⟩
  · exact ⟨h, Nat.le_refl _⟩
theorem T3.breaks {ts : List Tok} (h : T3 L n ts) : T3 L n (breaksF ts) ∧ (breaksF ts).length ≤ ts.length := by
  have := breaks_good h.good
  exact ⟨h.step this.1 (Sg.breaks (ns := []) ts).sub this.2, this.2⟩
theorem T3.tail {t : Tok} {r : List Tok} (h : T3 L n (t :: r)) (hk : t.k ≠ 4) : T3 L n r := h.step (h.good.tail hk) (fun _ h => List.mem_cons_of_mem _ h) (by simp)
theorem T3.need {ts : List Tok} {ns : List Nd} {s : List UInt8} {u : Unit} {ts' : List Tok} {ns' : List Nd} (h : T3 L n ts) (he : needR s ts ns = .ok u ts' ns') : T3 L n ts' ∧ ts'.length + 1 = ts.length ∧ ns' = ns := by
  obtain ⟨h1, h2, h3, h4, h5⟩ := need_ok h.good he
  subst h5
  exact ⟨(h.is h4).1, h2, h3⟩
theorem T3.read {c : Nat} {f : Rdr} {ts : List Tok} {ns : List Nd} {x : Int} {ts' : List Tok} {ns' : List Nd} (h : T3 L n ts) (hd : Dec c f) (hf : Fine f) (he : f ts ns = .ok x ts' ns') : T3 L n ts' ∧ ts'.length + 1 ≤ ts.length := by
  have d := hd _ _ _ _ _ h.good he
  have dl := d.len
  exact ⟨h.step d.good (hf _ _ _ _ _ h.good h.tw he).1.sub (by omega), dl⟩
theorem wrong_bad {α : Type} {ts : List Tok} {a e : Int} (h : T3 L n ts) (he : (wrongR ts : PR α) = .bad a e) : Bad L a e := by
  obtain ⟨t, r, rfl⟩ := h.good.ne
  unfold wrongR at he
  injection he with h1 h2
  have := h.at_ t (List.mem_cons_self ..)
  subst h1 h2
  exact ⟨by omega, by omega, by split <;> decide⟩
theorem need_bad {s : List UInt8} {ts : List Tok} {ns : List Nd} {a e : Int} (h : T3 L n ts) (he : needR s ts ns = .bad a e) : Bad L a e := by
  unfold needR at he
  split at he
  · cases he
  · exact wrong_bad h he
theorem lay_bad {n : Nd} {ts : List Tok} {ns : List Nd} {a e : Int} {p : Prop} (h : layR n ts ns = .bad a e) : p := by
  unfold layR at h
  cases h
theorem list_loop_bd {item : Rdr} (hd : Dec 3 item) (hi : Fine item) (hb : Bd L n item) : ∀ (f : Nat) (kids : List Int) (back : Bool) (ts : List Tok) (ns : List Nd) (a e : Int), T3 L n ts → ts.length < f → listL item f kids back ts ns = .bad a e → Bad L a e := by
  intro f
  induction f with
  | zero => intro kids back ts ns a e _ hl _; omega
  | succ f ih =>
    intro kids back ts ns a e ht hl h
    rw [listL] at h
    rcases bind_bad h with e1 | ⟨x, t1, n1, e1, h2⟩
    · exact hb _ _ _ _ ht e1
    · clear h
      obtain ⟨ht1, hl1⟩ := ht.read hd hi e1
      simp only [] at h2
      by_cases ha : isB t1 sAmp = true
      · have hk : takeT t1 sAmp = t1.tail := if_pos ha
        obtain ⟨ht2, hl2⟩ := ht1.is ha
        obtain ⟨ht3, hl3⟩ := ht2.breaks
        simp only [ha, hk, Bool.true_or, if_true] at h2
        by_cases hbg : beginsB (breaksF t1.tail) = true
        · rw [if_pos hbg] at h2
          exact ih _ _ _ _ _ _ ht3 (by omega) h2
        · rw [if_neg hbg] at h2
          cases h2
      · have ha : isB t1 sAmp = false := by simpa using ha
        have hk : takeT t1 sAmp = t1 := by unfold takeT; rw [ha]; rfl
        simp only [ha, hk, Bool.false_or] at h2
        by_cases hs : (isB t1 sSemi || isB t1 sLf) = true
        · simp only [hs, if_true] at h2
          have hT : T3 L n t1.tail ∧ t1.tail.length + 1 = t1.length := by
            rw [Bool.or_eq_true] at hs
            rcases hs with hs | hs
            · exact ht1.is hs
            · exact ht1.is hs
          obtain ⟨ht3, hl3⟩ := hT.1.breaks
          simp only [Bool.false_eq_true, if_false] at h2
          by_cases hbg : beginsB (breaksF t1.tail) = true
          · rw [if_pos hbg] at h2
            exact ih _ _ _ _ _ _ ht3 (by omega) h2
          · rw [if_neg hbg] at h2
            cases h2
        · have hs : (isB t1 sSemi || isB t1 sLf) = false := by simpa using hs
          simp only [hs, Bool.false_eq_true, if_false] at h2
          cases h2
theorem list_bd {item : Rdr} (hd : Dec 3 item) (hi : Fine item) (hb : Bd L n item) : Bd L n (listF item) := by
  intro ts ns a e ht h
  unfold listF at h
  obtain ⟨ht1, hl1⟩ := ht.breaks
  rcases bind_bad h with e1 | ⟨x, t1, n1, e1, h2⟩
  · exact list_loop_bd hd hi hb _ _ _ _ _ _ _ ht1 (by omega) e1
  · split at h2
    · split at h2
      · exact lay_bad h2
      · cases h2
    · exact lay_bad h2
theorem item_loop_bd {pipe : Rdr} (hd : Dec 3 pipe) (hi : Fine pipe) (hb : Bd L n pipe) : ∀ (f : Nat) (x : Int) (ts : List Tok) (ns : List Nd) (a e : Int), T3 L n ts → ts.length < f → itemL pipe f x ts ns = .bad a e → Bad L a e := by
  intro f
  induction f with
  | zero => intro x ts ns a e _ hl _; omega
  | succ f ih =>
    intro x ts ns a e ht hl h
    rw [itemL] at h
    have step : ∀ (s : List UInt8) (kd : Int), isB ts s = true → ((pipe (breaksF ts.tail) ns).bind fun y ts ns => itemL pipe f ns.length ts (ns ++ [{ kind := kd, kids := [x, y] }])) = .bad a e → Bad L a e := by
      intro s kd ha h
      obtain ⟨ht2, hl2⟩ := ht.is ha
      obtain ⟨ht3, hl3⟩ := ht2.breaks
      rcases bind_bad h with e1 | ⟨x, t1, n1, e1, h2⟩
      · exact hb _ _ _ _ ht3 e1
      · obtain ⟨ht4, hl4⟩ := ht3.read hd hi e1
        exact ih _ _ _ _ _ ht4 (by omega) h2
    split at h
    · rename_i ha
      exact step sAnd 4 ha h
    · split at h
      · rename_i ha
        exact step sOr 5 ha h
      · cases h
theorem item_bd {pipe : Rdr} (hd : Dec 3 pipe) (hi : Fine pipe) (hb : Bd L n pipe) : Bd L n (itemF pipe) := by
  intro ts ns a e ht h
  unfold itemF at h
  rcases bind_bad h with e1 | ⟨x, t1, n1, e1, h2⟩
  · exact hb _ _ _ _ ht e1
  · obtain ⟨ht4, hl4⟩ := ht.read hd hi e1
    exact item_loop_bd hd hi hb _ _ _ _ _ _ ht4 (by omega) h2
theorem pipe_loop_bd {cmd : Rdr} (hd : Dec 5 cmd) (hi : Fine cmd) (hb : Bd L n cmd) : ∀ (f : Nat) (kids : List Int) (ts : List Tok) (ns : List Nd) (a e : Int), T3 L n ts → ts.length < f → pipeL cmd f kids ts ns = .bad a e → Bad L a e := by
  intro f
  induction f with
  | zero => intro kids ts ns a e _ hl _; omega
  | succ f ih =>
    intro kids ts ns a e ht hl h
    rw [pipeL] at h
    split at h
    · rename_i ha
      obtain ⟨ht2, hl2⟩ := ht.is ha
      obtain ⟨ht3, hl3⟩ := ht2.breaks
      rcases bind_bad h with e1 | ⟨x, t1, n1, e1, h2⟩
      · exact hb _ _ _ _ ht3 e1
      · obtain ⟨ht4, hl4⟩ := ht3.read hd hi e1
        exact ih _ _ _ _ _ ht4 (by omega) h2
    · cases h
theorem not_bad {b : Bool} {x a e : Int} {ts : List Tok} {ns : List Nd} {p : Prop} (h : notR b x ts ns = .bad a e) : p := by
  unfold notR at h
  split at h
  · exact lay_bad h
  · cases h
theorem pipe_bd {cmd : Rdr} (hd : Dec 5 cmd) (hi : Fine cmd) (hb : Bd L n cmd) : Bd L n (pipeF cmd) := by
  intro ts ns a e ht h
  unfold pipeF at h
  obtain ⟨ht0, hl0⟩ := ht.take (s := wBang)
  rcases bind_bad h with e1 | ⟨x, t1, n1, e1, h2⟩
  · exact hb _ _ _ _ ht0 e1
  · obtain ⟨ht1, hl1⟩ := ht0.read hd hi e1
    rcases bind_bad h2 with e2 | ⟨k, t2, n2, e2, h3⟩
    · exact pipe_loop_bd hd hi hb _ _ _ _ _ _ ht1 (by omega) e2
    · split at h3
      · exact not_bad h3
      · exact not_bad h3
theorem redir_bd : ∀ (f : Nat) (acc : List Rd) (ts : List Tok) (ns : List Nd) (a e : Int), T3 L n ts → ts.length < f → redirL f acc ts ns = .bad a e → Bad L a e := by
  intro f
  induction f with
  | zero => intro acc ts ns a e _ hl _; omega
  | succ f ih =>
    intro acc ts ns a e ht hl h
    obtain ⟨t, r, rfl⟩ := ht.good.ne
    rw [redirL] at h
    simp only [List.length_cons] at hl
    split at h
    · rename_i h3
      rw [Bool.and_eq_true] at h3
      have hk : t.k = 3 := eq_of_beq h3.1
      have g1 := ht.tail (by omega)
      obtain ⟨o, r, rfl⟩ := g1.good.ne
      have ho : o.k = 2 := rdr_k h3.2
      have g2 := g1.tail (by omega)
      obtain ⟨w, r, rfl⟩ := g2.good.ne
      simp only [List.length_cons] at hl
      split at h
      · rename_i hwk
        have g3 := g2.tail (by intro e; simp [wkB, e] at hwk)
        exact ih _ _ _ _ _ g3 (by show r.length < f; omega) h
      · exact wrong_bad g2 h
    · split at h
      · rename_i h4
        have ho : t.k = 2 := rdr_k h4
        have g2 := ht.tail (by omega)
        obtain ⟨w, r, rfl⟩ := g2.good.ne
        simp only [List.length_cons] at hl
        split at h
        · rename_i hwk
          have g3 := g2.tail (by intro e; simp [wkB, e] at hwk)
          exact ih _ _ _ _ _ g3 (by show r.length < f; omega) h
        · exact wrong_bad g2 h
      · cases h
theorem redirF_bd {ts : List Tok} {ns : List Nd} {a e : Int} (ht : T3 L n ts) (h : redirF ts ns = .bad a e) : Bad L a e := redir_bd _ _ _ _ _ _ ht (Nat.lt_succ_self _) h
theorem T3.redir {ts : List Tok} {ns : List Nd} {l : List Rd} {ts' : List Tok} {ns' : List Nd} (ht : T3 L n ts) (h : redirF ts ns = .ok l ts' ns') : T3 L n ts' ∧ ts'.length ≤ ts.length := by
  obtain ⟨h1, h2, h3⟩ := redirF_good ht.good h
  exact ⟨ht.step h1 (redirF_fine ht.good ht.tw h).1 (by omega), by omega⟩
theorem sim_bd : ∀ (f : Nat) (m : Nd) (ts : List Tok) (ns : List Nd) (a e : Int), T3 L n ts → ts.length < f → simL f m ts ns = .bad a e → Bad L a e := by
  intro f
  induction f with
  | zero => intro m ts ns a e _ hl _; omega
  | succ f ih =>
    intro m ts ns a e ht hl h
    rw [simL] at h
    rcases bind_bad h with e1 | ⟨l, t1, n1, e1, h2⟩
    · exact redirF_bd ht e1
    · clear h
      obtain ⟨ht1, hl1⟩ := ht.redir e1
      obtain ⟨t, r, rfl⟩ := ht1.good.ne
      simp only [List.length_cons] at hl1
      simp only [] at h2
      split at h2
      · cases h2
      · rename_i hk
        have ht2 := ht1.tail (by omega)
        split at h2
        · exact ih _ _ _ _ _ ht2 (by omega) h2
        · split at h2
          · exact ih _ _ _ _ _ ht2 (by omega) h2
          · split at h2
            · cases h2
            · exact ih _ _ _ _ _ ht2 (by omega) h2
theorem simF_bd : Bd L n simF := by
  intro ts ns a e ht h
  unfold simF at h
  rcases bind_bad h with e1 | ⟨m, t1, n1, e1, h2⟩
  · exact sim_bd _ _ _ _ _ _ ht (Nat.lt_succ_self _) e1
  · have hg := sim_good _ _ _ _ _ _ _ ht.good e1
    have hs := sim_fine _ _ _ _ _ _ _ ht.good ht.tw e1
    split at h2
    · refine wrong_bad (n := t1.length) ⟨hg.1, ht.tw.sub hs.1, fun t h => ht.at_ t (hs.1 t h), Nat.le_refl _⟩ h2
    · exact lay_bad h2
theorem within_bd {f : Drd} {d : Nat} {ts : List Tok} {ns : List Nd} {a e : Int} (ht : T3 L n ts) (h : withinF f d ts ns = .bad a e) : Bad L a e ∨ f (d + 1) ts ns = .bad a e := by
  unfold withinF at h
  split at h
  · obtain ⟨t, r, rfl⟩ := ht.good.ne
    injection h with h1 h2
    have := ht.at_ t (List.mem_cons_self ..)
    refine .inl ?_
    simp only [] at h1
    subst h1 h2
    exact ⟨by omega, by omega, by decide⟩
  · exact .inr h
theorem within_yes {f : Drd} {d : Nat} {ts : List Tok} {ns : List Nd} {x : Int} {ts' : List Tok} {ns' : List Nd} (h : withinF f d ts ns = .ok x ts' ns') : f (d + 1) ts ns = .ok x ts' ns' := by
  unfold withinF at h
  split at h
  · cases h
  · exact h
theorem cmp_bd {core : Drd} (hd : DecD 5 core) (hc : ∀ d, FineC (core d)) (hb : ∀ d, BdH L n (core d)) (d : Nat) : BdH L n (cmpF core d) := by
  intro ts ns a e ht hh h
  unfold cmpF at h
  rcases bind_bad h with e1 | ⟨x, t1, n1, e1, h2⟩
  · rcases within_bd ht e1 with h3 | h3
    · exact h3
    · exact hb _ _ _ _ _ ht hh h3
  · have e2 := within_yes e1
    have dl := hd _ _ _ _ _ _ ht.good e2
    have dll := dl.len
    have s1 := (hc _ _ _ _ _ _ ht.good ht.tw hh e2).1
    have ht1 : T3 L n t1 := ht.step dl.good s1.sub (by omega)
    rcases bind_bad h2 with e3 | ⟨l, t2, n2, e3, h3⟩
    · exact redirF_bd ht1 e3
    · cases h3
theorem fun_bd {cmp : Drd} (hb : ∀ d, BdH L n (cmp d)) (d : Nat) {ts : List Tok} {ns : List Nd} {a e : Int} (ht : T3 L n ts) (hf : funB ts = true) (h : funF cmp d ts ns = .bad a e) : Bad L a e := by
  obtain ⟨t, r, rfl, hk, hr⟩ := fun_h hf
  unfold funF at h
  rw [List.tail_cons] at h
  have hgr := ht.tail (by omega)
  rcases bind_bad h with e1 | ⟨_, t1, n1, e1, h2⟩
  · exact need_bad hgr e1
  · obtain ⟨ht1, _, _⟩ := hgr.need e1
    rcases bind_bad h2 with e2 | ⟨_, t2, n2, e2, h3⟩
    · exact need_bad ht1 e2
    · obtain ⟨ht2, _, _⟩ := ht1.need e2
      have ht3 := ht2.breaks.1
      split at h3
      · rename_i hh
        rcases bind_bad h3 with e3 | ⟨_, t3, n3, e3, h4⟩
        · exact hb _ _ _ _ _ ht3 hh e3
        · exact lay_bad h4
      · exact wrong_bad ht3 h3
theorem cmd_bd {cmp : Drd} (hb : ∀ d, BdH L n (cmp d)) (d : Nat) : Bd L n (cmdF cmp d) := by
  intro ts ns a e ht h
  unfold cmdF at h
  split at h
  · exact hb d _ _ _ _ ht (by assumption) h
  · split at h
    · rename_i hf
      rcases within_bd ht h with h3 | h3
      · exact h3
      · exact fun_bd hb _ ht hf h3
    · exact simF_bd _ _ _ _ ht h
theorem lst_bd {cmp : Drd} (hd : DecD 5 cmp) (hc : ∀ d, FineH (cmp d)) (hb : ∀ d, BdH L n (cmp d)) (d : Nat) : Bd L n (lstF cmp d) :=
  list_bd (item_dec (pipe_dec (cmd_dec hd d))) (item_fine (pipe_dec (cmd_dec hd d)) (pipe_fine (cmd_dec hd d) (cmd_fine hd hc d)))
    (item_bd (pipe_dec (cmd_dec hd d)) (pipe_fine (cmd_dec hd d) (cmd_fine hd hc d)) (pipe_bd (cmd_dec hd d) (cmd_fine hd hc d) (cmd_bd hb d)))
theorem ifs_bd {lst : Rdr} (hd : Dec 2 lst) (hi : Fine lst) (hb : Bd L n lst) : ∀ (f : Nat) (ts : List Tok) (ns : List Nd) (a e : Int), T3 L n ts → ts.length < f → ifsF lst f ts ns = .bad a e → Bad L a e := by
  intro f
  induction f with
  | zero => intro ts ns a e _ hl _; omega
  | succ f ih =>
    intro ts ns a e ht hl h
    rw [ifsF] at h
    rcases bind_bad h with e1 | ⟨x, t1, n1, e1, h2⟩
    · exact hb _ _ _ _ ht e1
    clear h
    obtain ⟨ht1, hl1⟩ := ht.read hd hi e1
    rcases bind_bad h2 with e2 | ⟨_, t2, n2, e2, h3⟩
    · exact need_bad ht1 e2
    clear h2
    obtain ⟨ht2, hl2, _⟩ := ht1.need e2
    rcases bind_bad h3 with e3 | ⟨y, t3, n3, e3, h⟩
    · exact hb _ _ _ _ ht2 e3
    clear h3
    obtain ⟨ht3, hl3⟩ := ht2.read hd hi e3
    split at h
    · rename_i hel
      obtain ⟨ht4, hl4⟩ := ht3.is hel
      rcases bind_bad h with e4 | ⟨_, t4, n4, e4, h4⟩
      · exact ih _ _ _ _ ht4 (by omega) e4
      · exact lay_bad h4
    · split at h
      · rename_i hel
        obtain ⟨ht4, hl4⟩ := ht3.is hel
        rcases bind_bad h with e4 | ⟨_, t4, n4, e4, h4⟩
        · exact hb _ _ _ _ ht4 e4
        · obtain ⟨ht5, _⟩ := ht4.read hd hi e4
          rcases bind_bad h4 with e5 | ⟨_, t5, n5, e5, h5⟩
          · exact need_bad ht5 e5
          · exact lay_bad h5
      · rcases bind_bad h with e5 | ⟨_, t5, n5, e5, h5⟩
        · exact need_bad ht3 e5
        · exact lay_bad h5
theorem T3.words {ts : List Tok} (ht : T3 L n ts) : T3 L n (wordsR ts) := by
  have h1 := words_good ht.good
  exact ht.step h1.1 (words_fine ts).1 (by omega)
theorem fors_bd {ts : List Tok} {ns : List Nd} {a e : Int} (ht : T3 L n ts) (h : forsF ts ns = .bad a e) : Bad L a e := by
  obtain ⟨t, r, rfl⟩ := ht.good.ne
  unfold forsF at h
  simp only [] at h
  split at h
  · rename_i hnm
    have hk := named_k hnm
    have ht1 := (ht.tail (by omega)).breaks.1
    split at h
    · rename_i hin
      have ht2 := (ht1.is hin).1.words
      split at h
      · rename_i hs
        have ht3 : T3 L n (wordsR (breaksF r).tail).tail := by
          rw [Bool.or_eq_true] at hs
          rcases hs with hs | hs
          · exact (ht2.is hs).1
          · exact (ht2.is hs).1
        rcases bind_bad h with e5 | ⟨_, t5, n5, e5, h5⟩
        · exact need_bad ht3.breaks.1 e5
        · cases h5
      · exact wrong_bad ht2 h
    · rcases bind_bad h with e5 | ⟨_, t5, n5, e5, h5⟩
      · exact need_bad (ht1.take (s := sSemi)).1.breaks.1 e5
      · cases h5
  · exact wrong_bad ht h
theorem any_bd {ts : List Tok} {ns : List Nd} {a e : Int} (ht : T3 L n ts) (h : anyR ts ns = .bad a e) : Bad L a e := by
  obtain ⟨t, r, rfl⟩ := ht.good.ne
  unfold anyR at h
  simp only [] at h
  split at h
  · cases h
  · exact wrong_bad ht h
theorem T3.any {ts : List Tok} {ns : List Nd} {s : List UInt8} {ts' : List Tok} {ns' : List Nd} (ht : T3 L n ts) (h : anyR ts ns = .ok s ts' ns') : T3 L n ts' ∧ ts'.length + 1 = ts.length := by
  obtain ⟨h1, h2, _, _⟩ := any_ok ht.good h
  exact ⟨ht.step h1 (any_fine h).1 (by omega), h2⟩
theorem pats_bd : ∀ (f : Nat) (acc : List (List UInt8)) (ts : List Tok) (ns : List Nd) (a e : Int), T3 L n ts → ts.length < f → patsL f acc ts ns = .bad a e → Bad L a e := by
  intro f
  induction f with
  | zero => intro acc ts ns a e _ hl _; omega
  | succ f ih =>
    intro acc ts ns a e ht hl h
    rw [patsL] at h
    split at h
    · rename_i hb
      obtain ⟨ht1, hl1⟩ := ht.is hb
      rcases bind_bad h with e1 | ⟨s, t1, n1, e1, h2⟩
      · exact any_bd ht1 e1
      · obtain ⟨ht2, hl2⟩ := ht1.any e1
        exact ih _ _ _ _ _ ht2 (by omega) h2
    · cases h
theorem T3.pats {f : Nat} {acc : List (List UInt8)} {ts : List Tok} {ns : List Nd} {l : List (List UInt8)} {ts' : List Tok} {ns' : List Nd} (ht : T3 L n ts) (h : patsL f acc ts ns = .ok l ts' ns') : T3 L n ts' ∧ ts'.length ≤ ts.length := by
  obtain ⟨h1, _, _, h4⟩ := pats_ok _ _ _ _ _ _ _ ht.good h
  exact ⟨ht.step h1 (pats_fine _ _ _ _ _ _ _ ht.good ht.tw h).1 h4, h4⟩
theorem case_bd {lst : Rdr} (hd : Dec 2 lst) (hi : Fine lst) (hb : Bd L n lst) : ∀ (f : Nat) (m : Nd) (ts : List Tok) (ns : List Nd) (a e : Int), T3 L n ts → ts.length < f → caseL lst f m ts ns = .bad a e → Bad L a e := by
  intro f
  induction f with
  | zero => intro m ts ns a e _ hl _; omega
  | succ f ih =>
    intro m ts ns a e ht hl h
    rw [caseL] at h
    split at h
    · cases h
    · have gp := par_good ht.good
      have pc := par_cnt ht.tw
      have htp : T3 L n (if sgnB ts sPar = true then ts.tail else ts) := ht.step gp.1 pc.1 gp.2
      rcases bind_bad h with e1 | ⟨s, t1, n1, e1, h2⟩
      · exact any_bd htp e1
      clear h
      obtain ⟨ht1, hl1⟩ := htp.any e1
      have hlp := gp.2
      rcases bind_bad h2 with e2 | ⟨p, t2, n2, e2, h3⟩
      · exact pats_bd _ _ _ _ _ _ ht1 (by omega) e2
      clear h2
      obtain ⟨ht2, hl2⟩ := ht1.pats e2
      rcases bind_bad h3 with e3 | ⟨_, t3, n3, e3, h4⟩
      · exact need_bad ht2 e3
      clear h3
      obtain ⟨ht3, hl3, _⟩ := ht2.need e3
      obtain ⟨htb, hlb⟩ := ht3.breaks
      rcases bind_bad h4 with e4 | ⟨x, t4, n4, e4, h⟩
      · split at e4
        · exact hb _ _ _ _ htb e4
        · cases e4
      clear h4
      have h4 : T3 L n t4 ∧ t4.length ≤ t3.length := by
        split at e4
        · obtain ⟨q1, q2⟩ := htb.read hd hi e4
          exact ⟨q1, by omega⟩
        · injection e4 with h1 h2 h3
          subst h1 h2 h3
          exact ⟨htb, hlb⟩
      split at h
      · rename_i hs2
        obtain ⟨ht5, hl5⟩ := h4.1.is hs2
        obtain ⟨ht6, hl6⟩ := ht5.breaks
        exact ih _ _ _ _ _ ht6 (by omega) h
      · cases h
theorem caseF_bd {lst : Rdr} (hd : Dec 2 lst) (hi : Fine lst) (hb : Bd L n lst) {ts : List Tok} {ns : List Nd} {a e : Int} (ht : T3 L n ts) (h : caseF lst ts ns = .bad a e) : Bad L a e := by
  unfold caseF at h
  rcases bind_bad h with e1 | ⟨s, t1, n1, e1, h2⟩
  · exact any_bd ht e1
  clear h
  have ht1 := (ht.any e1).1.breaks.1
  rcases bind_bad h2 with e3 | ⟨_, t3, n3, e3, h3⟩
  · exact need_bad ht1 e3
  clear h2
  obtain ⟨ht3, _, _⟩ := ht1.need e3
  obtain ⟨ht4, hl4⟩ := ht3.breaks
  rcases bind_bad h3 with e4 | ⟨m, t4, n4, e4, h4⟩
  · exact case_bd hd hi hb _ _ _ _ _ _ ht4 (by omega) e4
  clear h3
  obtain ⟨g4, l4, _, _⟩ := case_loop hd _ _ _ _ _ _ _ ht4.good e4
  obtain ⟨r1, _⟩ := case_fine hd hi _ _ _ _ _ _ _ ht4.good ht4.tw e4
  rcases bind_bad h4 with e5 | ⟨_, t5, n5, e5, h5⟩
  · exact need_bad (ht4.step g4 r1 l4) e5
  · cases h5
theorem coreS_bd {lst : Rdr} (hd : Dec 2 lst) (hi : Fine lst) (hb : Bd L n lst) (s : List UInt8) {ts : List Tok} {ns : List Nd} {a e : Int} (ht : T3 L n ts) (h : coreS lst s ts ns = .bad a e) : Bad L a e := by
  have one : ∀ (kd : Int) (c : List UInt8), ((lst ts ns).bind fun x ts ns => (needR c ts ns).bind fun _ ts ns => layR { kind := kd, kids := [x] } ts ns) = .bad a e → Bad L a e := by
    intro kd c h
    rcases bind_bad h with e1 | ⟨y, t1, n1, e1, h2⟩
    · exact hb _ _ _ _ ht e1
    · obtain ⟨ht1, _⟩ := ht.read hd hi e1
      rcases bind_bad h2 with e5 | ⟨_, t5, n5, e5, h5⟩
      · exact need_bad ht1 e5
      · exact lay_bad h5
  unfold coreS at h
  split at h
  · exact one 8 wClose h
  · split at h
    · exact one 9 sRap h
    · split at h
      · exact ifs_bd hd hi hb _ _ _ _ _ ht (Nat.lt_succ_self _) h
      · split at h
        · rcases bind_bad h with e1 | ⟨m, t1, n1, e1, h2⟩
          · exact fors_bd ht e1
          · obtain ⟨g1, l1, hn1⟩ := fors_ok ht.good e1
            obtain ⟨f1, _⟩ := fors_fine ht.good ht.tw e1
            have ht1 : T3 L n t1 := ht.step g1 f1 (by omega)
            rcases bind_bad h2 with e2 | ⟨y, t2, n2, e2, h3⟩
            · exact hb _ _ _ _ ht1 e2
            · obtain ⟨ht2, _⟩ := ht1.read hd hi e2
              rcases bind_bad h3 with e5 | ⟨_, t5, n5, e5, h5⟩
              · exact need_bad ht2 e5
              · exact lay_bad h5
        · split at h
          · rcases bind_bad h with e1 | ⟨m, t1, n1, e1, h2⟩
            · exact caseF_bd hd hi hb ht e1
            · exact lay_bad h2
          · rcases bind_bad h with e1 | ⟨y, t1, n1, e1, h2⟩
            · exact hb _ _ _ _ ht e1
            · obtain ⟨ht1, _⟩ := ht.read hd hi e1
              rcases bind_bad h2 with e2 | ⟨_, t2, n2, e2, h3⟩
              · exact need_bad ht1 e2
              · obtain ⟨ht2, _, _⟩ := ht1.need e2
                rcases bind_bad h3 with e3 | ⟨z, t3, n3, e3, h4⟩
                · exact hb _ _ _ _ ht2 e3
                · obtain ⟨ht3, _⟩ := ht2.read hd hi e3
                  rcases bind_bad h4 with e5 | ⟨_, t5, n5, e5, h5⟩
                  · exact need_bad ht3 e5
                  · exact lay_bad h5
theorem coreF_bd {lst : Drd} (hd : DecD 2 lst) (hi : ∀ d, Fine (lst d)) (hb : ∀ d, Bd L n (lst d)) (d : Nat) : BdH L (n + 1) (coreF lst d) := by
  intro ts ns a e ht hh h
  obtain ⟨t, r, rfl⟩ := ht.good.ne
  unfold coreF at h
  simp only [] at h
  have hk : t.k ≠ 4 := by
    have hc : cmpB t = true := hh
    unfold cmpB at hc
    simp only [Bool.or_eq_true, Bool.and_eq_true, beq_iff_eq] at hc
    omega
  rw [if_neg hk] at h
  have h1 := ht.tail hk
  have hl := ht.len
  simp only [List.length_cons] at hl
  exact coreS_bd (hd d) (hi d) (hb d) _ ⟨h1.good, h1.tw, h1.at_, by omega⟩ h
theorem core_bd (L : Nat) : ∀ f d, BdH L f (core f d)
  | 0, _ => fun ts _ _ _ ht _ _ => by
    have := ht.len
    have := ht.good.pos
    omega
  | f + 1, d => coreF_bd (lst_dec (cmp_dec (core_dec f))) (lst_fine (cmp_dec (core_dec f)) (cmp_fine (core_dec f) (core_fine f))) (lst_bd (cmp_dec (core_dec f)) (cmp_fine (core_dec f) (core_fine f)) (cmp_bd (core_dec f) (core_fine f) (core_bd L f))) d
theorem lst_bd_all (L f d : Nat) : Bd L f (lst f d) := lst_bd (cmp_dec (core_dec f)) (cmp_fine (core_dec f) (core_fine f)) (cmp_bd (core_dec f) (core_fine f) (core_bd L f)) d
theorem Toks.at_ {L : Nat} {ts : List Tok} (h : Toks L ts) : ∀ t ∈ ts, t.a ≤ L := fun t ht => by
  rcases h.w t ht with ⟨_, _, h3⟩ | hw
  · exact h3
  · exact hw.at_
theorem Toks.t3 {L : Nat} {ts : List Tok} (h : Toks L ts) : T3 L ts.length ts := ⟨h.good, h.tw, h.at_, Nat.le_refl _⟩
theorem parse_no {L : Nat} {ts : List Tok} (h : Toks L ts) (he : (parseT ts).e ≠ 0) : (parseT ts).ns = [] ∧ 0 ≤ (parseT ts).a ∧ (parseT ts).a ≤ L := by
  have gb := h.t3.breaks.1
  obtain ⟨t, r, hbr⟩ := gb.good.ne
  unfold parseT at he ⊢
  rw [hbr] at he gb ⊢
  simp only [] at he ⊢
  by_cases hk : t.k = 4
  · rw [if_pos hk] at he
    exact absurd rfl he
  · rw [if_neg hk] at he ⊢
    cases hl : lst ts.length 0 (t :: r) [] with
    | bad a e =>
      have := lst_bd_all L ts.length 0 _ _ _ _ gb hl
      exact ⟨rfl, this.1, this.2.1⟩
    | ok x t1 n1 =>
      have d := lst_left ts.length 0 _ _ _ _ _ gb.good hl
      obtain ⟨ht1, _⟩ := gb.read (lst_left ts.length 0) (lst_fine_all ts.length 0) hl
      obtain ⟨u, q, rfl⟩ := d.good.ne
      have := ht1.at_ u (List.mem_cons_self ..)
      rw [hl] at he
      simp only [] at he ⊢
      by_cases hu : u.k = 4
      · have hu' : ¬ u.k ≠ 4 := fun h => h hu
        rw [if_neg hu'] at he ⊢
        by_cases h3 : 300 < n1.length
        · rw [if_pos h3]
          exact ⟨rfl, Int.le_refl _, by show (0 : Int) ≤ _; omega⟩
        · rw [if_neg h3] at he
          exact absurd rfl he
      · rw [if_pos hu]
        exact ⟨rfl, by show (0 : Int) ≤ (u.a : Int); omega, by show (u.a : Int) ≤ _; omega⟩
theorem parse_yes {L : Nat} {ts : List Tok} (h : Toks L ts) (he : (parseT ts).e = 0) : Whole ts (parseT ts).ns := by
  refine parse_whole h.good h.tw he fun t r a e hbr hl => ?_
  have gb := h.t3.breaks.1
  rw [hbr] at gb
  exact (lst_bd_all L ts.length 0 _ _ _ _ gb hl).2.2
/-- All that is said of a text's nodes. -/
theorem parse_says (s : List UInt8) : ((parseF s).e ≠ 0 → (parseF s).ns = [] ∧ 0 ≤ (parseF s).a ∧ (parseF s).a ≤ s.length) ∧ ((parseF s).e = 0 → ∃ ts, allF s = .ok ts ∧ Whole ts (parseF s).ns) := by
  unfold parseF
  cases ha : allF s with
  | err a e =>
    obtain ⟨h1, h2, h3⟩ := all_e ha
    exact ⟨fun _ => ⟨rfl, h2, h3⟩, fun h => absurd h h1⟩
  | ok ts =>
    obtain ⟨_, ht⟩ := all_toks ha
    exact ⟨parse_no ht, fun h => ⟨ts, rfl, parse_yes ht h⟩⟩

end Go.Proofs.Ytgpfjcogaheopaa

end
